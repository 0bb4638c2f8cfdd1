/- Chapter 3: the reference's Fence, FailAfter, Return. -/
import Derived.Test.YtklojcgbokmkhaaDevW
namespace Go.Proofs.Ytklojcgbokmkhaa
set_option linter.unusedVariables false
set_option linter.unusedSimpArgs false
set_option linter.unusedSectionVars false
open Go.RowKit
open Go.Maps (Keyed)
attribute [local go_sem ↓] Go.wp_at_zero Go.wp_at_succ
theorem intC_len (l : List Int) : (l.map intC).length = l.length := List.length_map ..
theorem intC_row (l : List Int) : ∀ r ∈ l.map intC, r.length = 1 := by intro r h; obtain ⟨x, _, rfl⟩ := List.mem_map.1 h; rfl
theorem intC_one (l : List Int) : ∀ r ∈ l.map intC, r.all (·.oneCell') = true := by intro r h; obtain ⟨x, _, rfl⟩ := List.mem_map.1 h; rfl
theorem RDin.grow {w W W' : World} {n : Nat} {p q : RefP} {D E : Dev} (h : RefM w p D) (hi : RDin w n W p D q E) (hg : Grew W W') : RDin w n W' p D q E := RDin.turn h hi (hg.turned (fun _ => False)) (fun _ h => h.elim)
theorem RDin.new_fen {w W : World} {n : Nat} {p q : RefP} {D E : Dev} (hi : RDin w n W p D q E) (A : Option Addr) (c : Nat) (F : Int → Int) (hl : ListAt W W.heap.size 1 A ((fenL { E with fen := F }).map intC)) (hc : capOk 5 c) (hok : ∀ s, 0 ≤ F s ∧ F s ≤ 1099511627777) (hA : ∀ k, Lies A 5 k → n ≤ k) :
    RDin w n W p D { q with A3 := A, c3 := c } { E with fen := F } :=
  ⟨⟨hi.ref.st, hi.ref.old, hi.ref.olen, hi.ref.each, hi.ref.pend, hl, hi.ref.sv, hi.ref.fuse, hi.ref.fub, hi.ref.svok, hi.ref.cap0, hi.ref.cap1, hi.ref.cap2, hc, hi.ref.cap6, ⟨hi.ref.ok.len, hi.ref.ok.pos, hi.ref.ok.lim, hi.ref.ok.st, hi.ref.ok.old, hi.ref.ok.pend, hok⟩⟩, hi.grew, fun k hk => by
    rcases hk with hk | hk | hk | hk | hk
    · exact hi.feet k (.inl hk)
    · exact hi.feet k (.inr (.inl hk))
    · exact hi.feet k (.inr (.inr (.inl hk)))
    · exact .inr (hA k hk)
    · exact hi.feet k (.inr (.inr (.inr (.inr hk))))⟩
theorem RDin.new_fuse {w W : World} {n : Nat} {p q : RefP} {D E : Dev} (hi : RDin w n W p D q E) (F : Option (Nat × List Int)) (b : Bool) (u : Int) (A : Option Addr) (c : Nat) (l : List Int) (hsv : ListAt W W.heap.size 1 A (l.map intC)) (hf : (F = none ∧ u = -1) ∨ ∃ n : Nat, F = some (n, l) ∧ u = n) (hub : u ≤ 9223372036854775807) (hok : ∀ n ∈ l, okI n) (hc : capOk l.length c) (hA : ∀ k, Lies A l.length k → n ≤ k) :
    RDin w n W p D { q with fu := u, A6 := A, c6 := c, svl := l } { E with fuse := F, failed := b } :=
  ⟨hi.ref.with_fuse F b u A c l hsv hf hub hok hc, hi.grew, fun k hk => by
    rcases hk with hk | hk | hk | hk | hk | hk
    · exact hi.feet k (.inl hk)
    · exact hi.feet k (.inr (.inl hk))
    · exact hi.feet k (.inr (.inr (.inl hk)))
    · exact hi.feet k (.inr (.inr (.inr (.inl hk))))
    · exact .inr (hA k hk)
    · exact hi.feet k (.inr (.inr (.inr (.inr (.inr hk)))))⟩
theorem RDin.new_st {w W : World} {n : Nat} {p q : RefP} {D E : Dev} (hi : RDin w n W p D q E) (A : Option Addr) (c : Nat) (S : List ByteArray) (hl : ListAt W W.heap.size 1 A (S.map strC)) (hlen : S.length = E.st.length) (hc : capOk S.length c) (hok : ∀ s ∈ S, s.size = 140) (hA : ∀ k, Lies A S.length k → n ≤ k) :
    RDin w n W p D { q with A0 := A, c0 := c } { E with st := S } :=
  ⟨⟨hl, hi.ref.old, by rw [hlen]; exact hi.ref.olen, hi.ref.each, hi.ref.pend, hi.ref.fen, hi.ref.sv, hi.ref.fuse, hi.ref.fub, hi.ref.svok, hc, by rw [hlen]; exact hi.ref.cap1, hi.ref.cap2, hi.ref.cap3, hi.ref.cap6, ⟨by rw [hlen]; exact hi.ref.ok.len, by rw [hlen]; exact hi.ref.ok.pos, by rw [hlen]; exact hi.ref.ok.lim, hok, hi.ref.ok.old, by rw [hlen]; exact hi.ref.ok.pend, hi.ref.ok.fen⟩⟩, hi.grew, fun k hk => by
    rcases hk with hk | hk | hk
    · exact .inr (hA k hk)
    · exact hi.feet k (.inr (.inl (by rw [← hlen]; exact hk)))
    · exact hi.feet k (.inr (.inr hk))⟩
theorem fenL_set (D : Dev) (k : Nat) (h1 : 1 ≤ k) (h4 : k ≤ 4) (v : Int) : (fenL D).set k v = fenL { D with fen := fun s => if s = (k : Int) then v else D.fen s } := by
  match k, h1, h4 with
  | 1, _, _ => rfl
  | 2, _, _ => rfl
  | 3, _, _ => rfl
  | 4, _, _ => rfl
theorem fenceD_same {D : Dev} {s e : Int} (h : s < 1 ∨ 4 < s ∨ clipE e ≤ D.fen s) : fenceD D s e = D := by
  unfold fenceD
  split
  · rfl
  · have hf : (fun i => if i = s then max (D.fen s) (clipE e) else D.fen i) = D.fen := by
      funext i
      split
      · subst i; omega
      · rfl
    rw [hf]
theorem fenceD_up {D : Dev} {s e : Int} (h1 : 1 ≤ s) (h4 : s ≤ 4) (v : Int) (hv : max (D.fen s) (clipE e) = v) : fenceD D s e = { D with fen := fun i => if i = s then v else D.fen i } := by
  unfold fenceD
  rw [if_neg (by omega), hv]
section
variable {w : World} {p : RefP} {D : Dev} (h : RefM w p D)
include h
set_option maxRecDepth 100000 in
set_option maxHeartbeats 4000000 in
theorem rfence_any (s e : Int) (hs : okI s) (he : okI e) : Calls Try.prog 48 #[.agg (rv p D), .int .i64 s, .int .i64 e] w fun er w' => ∃ p', er = .returned (.agg (rv p' (fenceD D s e))) ∧ RDid w w' p D p' (fenceD D s e) := by
  have hb := (Blk.new w 32 (rv p D) rfl).alloc (.cells #[.slice none 0 0, .slice none 0 0, .slice none 0 0, .slice none 0 0, .bool false, .int .i64 0, .slice none 0 0] 32)
  have hr := Blk.new (w.alloc (.cells (rv p D) 32)) 32 #[.slice none 0 0, .slice none 0 0, .slice none 0 0, .slice none 0 0, .bool false, .int .i64 0, .slice none 0 0] (n := w.heap.size + 1) (by simp)
  have hG0 := ((Grew.refl w).alloc (.cells (rv p D) 32)).alloc (.cells #[.slice none 0 0, .slice none 0 0, .slice none 0 0, .slice none 0 0, .bool false, .int .i64 0, .slice none 0 0] 32)
  obtain ⟨w1, hw1⟩ : ∃ w1, w1 = (w.alloc (.cells (rv p D) 32)).alloc (.cells #[.slice none 0 0, .slice none 0 0, .slice none 0 0, .slice none 0 0, .bool false, .int .i64 0, .slice none 0 0] 32) := ⟨_, rfl⟩
  rw [← hw1] at hb hr hG0
  have hz1 : w1.heap.size = w.heap.size + 2 := by rw [hw1]; simp
  rw [show rv p D = #[.slice p.A0 D.st.length p.c0, .slice p.A1 D.st.length p.c1, .slice p.A2 D.pend.length p.c2, .slice p.A3 5 p.c3, .bool D.failed, .int .i64 p.fu, .slice p.A6 p.svl.length p.c6] from rfl] at hw1 ⊢
  have HH := Lib.hid h
  have HG0 := Lib.hid hG0
  unfold okI at hs he
  by_cases hbad : s < 1 ∨ 4 < s ∨ e < 0
  · have HV := Lib.hid (show fenceD D s e = D from fenceD_same (by
      rcases hbad with h9 | h9 | h9
      · exact .inl h9
      · exact .inr (.inl h9)
      · exact .inr (.inr (by unfold clipE; rw [if_pos h9]; exact (h.ok.fen s).1))))
    clear h
    go_enter Try.func48, Try.ntmps48
    go_upto_region 1 with fail
    rw [← hw1]
    clear hw1
    by_cases h1 : s < 1
    · clear hbad
      go_wp2_with (first | (refine wpList_load_blk rfl 32 _ rfl (w.heap.size) rfl 32 (rv (p) (D)) _ (hb) Try.underlying32 rfl info_rdev ?_) | (refine wpList_store_blk rfl 32 _ _ rfl (w.heap.size + 1) (rv (p) (D)) rfl rfl 32 _ (hr) rfl info_rdev (rv_one _ _) ?_))
      refine bodyPost_ret (results_cell_row rfl _ _ (w.heap.size + 1) 32 (rv p D) (0, 0) _ rfl (hr.setRow _) Try.underlying32 rfl info_rdev) rfl ?_
      rw [HV.out]
      exact ⟨p, rfl, RDid.same HH.out (HG0.out.setRow (by omega) _)⟩
    · by_cases h2 : 4 < s
      · clear hbad
        go_wp2_with (first | (refine wpList_load_blk rfl 32 _ rfl (w.heap.size) rfl 32 (rv (p) (D)) _ (hb) Try.underlying32 rfl info_rdev ?_) | (refine wpList_store_blk rfl 32 _ _ rfl (w.heap.size + 1) (rv (p) (D)) rfl rfl 32 _ (hr) rfl info_rdev (rv_one _ _) ?_))
        refine bodyPost_ret (results_cell_row rfl _ _ (w.heap.size + 1) 32 (rv p D) (0, 0) _ rfl (hr.setRow _) Try.underlying32 rfl info_rdev) rfl ?_
        rw [HV.out]
        exact ⟨p, rfl, RDid.same HH.out (HG0.out.setRow (by omega) _)⟩
      · have h3 : e < 0 := by omega
        clear hbad
        go_wp2_with (first | (refine wpList_load_blk rfl 32 _ rfl (w.heap.size) rfl 32 (rv (p) (D)) _ (hb) Try.underlying32 rfl info_rdev ?_) | (refine wpList_store_blk rfl 32 _ _ rfl (w.heap.size + 1) (rv (p) (D)) rfl rfl 32 _ (hr) rfl info_rdev (rv_one _ _) ?_))
        refine bodyPost_ret (results_cell_row rfl _ _ (w.heap.size + 1) 32 (rv p D) (0, 0) _ rfl (hr.setRow _) Try.underlying32 rfl info_rdev) rfl ?_
        rw [HV.out]
        exact ⟨p, rfl, RDid.same HH.out (HG0.out.setRow (by omega) _)⟩
  · obtain ⟨k, rfl⟩ : ∃ k : Nat, s = (k : Int) := ⟨s.toNat, by omega⟩
    have h1 : 1 ≤ k := by omega
    have h4 : k ≤ 4 := by omega
    have h0 : 0 ≤ e := by omega
    have hfb := h.ok.fen k
    have HFN := Lib.hid h.fen
    have HI0 := Lib.hid (RDin.start w1.heap.size h hG0)
    have hk5 : k < (fenL D).length := by show k < 5; omega
    have hfk := fenL_at D k h1 h4
    have x3 := hb.cell 3
    have f3 := hb.frozen 3
    have hxl := hb.lt
    unfold rv at x3
    have hx1 : w.heap.size < w1.heap.size := hxl
    have HZ1 := Lib.hid hz1
    clear h hbad hz1
    go_enter Try.func48, Try.ntmps48
    go_upto_region 1 with fail
    rw [← hw1]
    clear hw1
    go_upto_region 4 with (at_builtin; refine wpList_dup w1 (by rfl) _ _ 30 rfl 3 1 8 _ Try.underlying30 info_int rfl (by decide) ((fenL D).map intC) (by rfl) _ 5 _ (by rfl) rfl (intC_row _) (HFN.out.on HG0.out) (intC_one _) (by omega) (by omega) ?_; intro g3 c3 w3 hown1 hg3 hgl3 hgb3 hn3 hc3; have x3 := (hg3.cellEq _ _ hxl).trans x3; have f3 := (hg3.frozenEq _ _ hxl).trans f3; have hx3 : w.heap.size < w3.heap.size := Nat.lt_of_lt_of_le hxl hg3.size)
    have hge3 : w.heap.size + 2 ≤ g3 := by have := HZ1.out; omega
    have hb4 := (hb.grew hg3).set_ 3 (.slice (some ⟨g3, 0, none⟩) 5 c3)
    have hb4' : Blk (w3.setCell ⟨w.heap.size, 3, none⟩ (.slice (some ⟨g3, 0, none⟩) 5 c3)) w.heap.size 32 (rv { p with A3 := some ⟨g3, 0, none⟩, c3 := c3 } D) := hb4.conv rfl
    have hr4 := (hr.grew hg3).far (p := ⟨w.heap.size, 3, none⟩) (by simp) (.slice (some ⟨g3, 0, none⟩) 5 c3)
    have hown4 := hown1.far (p := ⟨w.heap.size, 3, none⟩) (own_ne _ _ (by show g3 ≠ w.heap.size; omega)) (.slice (some ⟨g3, 0, none⟩) 5 c3)
    have HI4 := Lib.hid (RDin.turn HH.out (RDin.grow HH.out HI0.out hg3) ((Turned.refl (fun k => k = w.heap.size) w3).setCell (p := ⟨w.heap.size, 3, none⟩) (fun _ => rfl) (.slice (some ⟨g3, 0, none⟩) 5 c3)) (fun k hk => by have := HZ1.out; omega))
    obtain ⟨w4, hw4⟩ : ∃ w4, w4 = w3.setCell ⟨w.heap.size, 3, none⟩ (.slice (some ⟨g3, 0, none⟩) 5 c3) := ⟨_, rfl⟩
    rw [← hw4] at hb4' hr4 hown4 HI4 ⊢
    clear hw4 hb4 hb hr hown1 x3 f3 hg3
    have HB4 := Lib.hid hb4'
    have HR4 := Lib.hid hr4
    have HO4 := Lib.hid hown4
    have hrow : ((fenL D).map intC)[k]? = some (intC (D.fen k)) := by rw [List.getElem?_map, List.getElem?_eq_getElem hk5, hfk]; rfl
    have c0 := hown4.cell (i := 0) hrow rfl
    rw [Nat.mul_one, Nat.add_zero] at c0
    have d0 := hown4.frozen k
    have x3 := hb4'.cell 3
    have hxl4 := hb4'.lt
    have hgl4 := (hown4.own_ge (g := g3) rfl).2
    unfold rv at x3
    have HFK := Lib.hid hfk
    have HROW := Lib.hid hrow
    clear hfk hrow hk5
    by_cases hc : D.fen k ≤ e
    · have hcl : max (D.fen k) (clipE e) = min e 1099511627776 + 1 := by unfold clipE; rw [if_neg (by omega)]; omega
      have HV := Lib.hid (fenceD_up (D := D) (s := k) (e := e) (by omega) (by omega) _ hcl)
      have hs4 := hown4.set_ (j := k) (i := 0) (o := k) HROW.out (by omega) (by omega) (.int .i64 (min e 1099511627776 + 1))
      have he4 : ((fenL D).map intC).set k ((intC (D.fen k)).set 0 (.int .i64 (min e 1099511627776 + 1))) = (fenL { D with fen := fun i => if i = (k : Int) then min e 1099511627776 + 1 else D.fen i }).map intC := by
        rw [← fenL_set D k h1 h4, List.map_set]; rfl
      rw [he4] at hs4
      have HS4 := Lib.hid hs4
      generalize hv : min e 1099511627776 = v at *
      have hvb : 0 ≤ v ∧ v ≤ 1099511627776 := by omega
      clear hcl hs4 he4 hown4 hb4' hr4
      have HVV := Lib.hid hv
      clear hv
      go_upto_region 6 with fail
      obtain ⟨zz, hzz⟩ : ∃ z, z = (if (1099511627776 : Int) < e then (1099511627776 : Int) else e) := ⟨_, rfl⟩
      rw [← hzz]
      have hzv : zz = v := by rw [hzz]; have := HVV.out; split <;> omega
      rw [hzv]
      clear hzz hzv zz
      have hb5 := HB4.out.far (p := ⟨g3, k, none⟩) (by simp; omega) (.int .i64 (v + 1))
      have hr5 := HR4.out.far (p := ⟨g3, k, none⟩) (by simp; omega) (.int .i64 (v + 1))
      have ht5 : Turned (fun k => k = w.heap.size + 1 ∨ k = g3) w4 (w4.setCell ⟨g3, k, none⟩ (.int .i64 (v + 1))) := (Turned.refl _ w4).setCell (p := ⟨g3, k, none⟩) (fun _ => .inr rfl) _
      obtain ⟨w5, hw5⟩ : ∃ w5, w5 = w4.setCell ⟨g3, k, none⟩ (.int .i64 (v + 1)) := ⟨_, rfl⟩
      rw [← hw5] at hb5 hr5 HS4 ht5 ⊢
      clear hw5 c0 d0 x3
      go_wp2_with (first | (refine wpList_load_blk rfl 32 _ rfl (w.heap.size) rfl 32 (rv ({ p with A3 := some ⟨g3, 0, none⟩, c3 := c3 }) (D)) _ (hb5) Try.underlying32 rfl info_rdev ?_) | (refine wpList_store_blk rfl 32 _ _ rfl (w.heap.size + 1) (rv ({ p with A3 := some ⟨g3, 0, none⟩, c3 := c3 }) (D)) rfl rfl 32 _ (hr5) rfl info_rdev (rv_one _ _) ?_))
      refine bodyPost_ret (results_cell_row rfl _ _ (w.heap.size + 1) 32 (rv { p with A3 := some ⟨g3, 0, none⟩, c3 := c3 } D) (0, 0) _ rfl (hr5.setRow _) Try.underlying32 rfl info_rdev) rfl ?_
      rw [HV.out]
      refine ⟨{ p with A3 := some ⟨g3, 0, none⟩, c3 := c3 }, rfl, ?_⟩
      have ht6 : Turned (fun k => k = w.heap.size + 1) w5 (w5.setRow (w.heap.size + 1) (rv { p with A3 := some ⟨g3, 0, none⟩, c3 := c3 } D)) := (Turned.refl (fun k => k = w.heap.size + 1) w5).setRow (fun _ => rfl) _
      have ht9 := ht5.trans (ht6.mono (T := fun k => k = w.heap.size + 1 ∨ k = g3) (fun _ _ h => .inl h))
      have hz1 := HZ1.out
      have hi4 : RDin w w1.heap.size w4 p D p D := HI4.out
      have hr9 : RefM (w5.setRow (w.heap.size + 1) (rv { p with A3 := some ⟨g3, 0, none⟩, c3 := c3 } D)) p D := hi4.ref.turned ht9 (fun i hi hs => by
        have := HH.out.lt i hi
        omega)
      have hI9 : RDin w w1.heap.size (w5.setRow (w.heap.size + 1) (rv { p with A3 := some ⟨g3, 0, none⟩, c3 := c3 } D)) p D p D := ⟨hr9, hi4.grew.turn ht9 (fun i hi => by omega), hi4.feet⟩
      have hO9 := (HS4.out.kept ht6 (fun g hg => by have := (HS4.out.own_ge hg).1; omega)).listA
      refine (hI9.new_fen (some ⟨g3, 0, none⟩) c3 (fun i => if i = (k : Int) then v + 1 else D.fen i) hO9 ⟨hn3, hc3⟩ (fun i => ?_) (fun k hk => by have := lies_own hk rfl; omega)).out (by omega)
      show 0 ≤ (if i = (k : Int) then v + 1 else D.fen i) ∧ (if i = (k : Int) then v + 1 else D.fen i) ≤ 1099511627777
      split
      · omega
      · exact HH.out.ok.fen i
    · have HV := Lib.hid (show fenceD D k e = D from fenceD_same (.inr (.inr (by unfold clipE; rw [if_neg (by omega)]; omega))))
      clear hown4
      go_wp2_with (first | (refine wpList_load_blk rfl 32 _ rfl (w.heap.size) rfl 32 (rv ({ p with A3 := some ⟨g3, 0, none⟩, c3 := c3 }) (D)) _ (hb4') Try.underlying32 rfl info_rdev ?_) | (refine wpList_store_blk rfl 32 _ _ rfl (w.heap.size + 1) (rv ({ p with A3 := some ⟨g3, 0, none⟩, c3 := c3 }) (D)) rfl rfl 32 _ (hr4) rfl info_rdev (rv_one _ _) ?_))
      refine bodyPost_ret (results_cell_row rfl _ _ (w.heap.size + 1) 32 (rv { p with A3 := some ⟨g3, 0, none⟩, c3 := c3 } D) (0, 0) _ rfl (hr4.setRow _) Try.underlying32 rfl info_rdev) rfl ?_
      rw [HV.out]
      refine ⟨{ p with A3 := some ⟨g3, 0, none⟩, c3 := c3 }, rfl, ?_⟩
      have ht9 : Turned (fun k => k = w.heap.size + 1) w4 (w4.setRow (w.heap.size + 1) (rv { p with A3 := some ⟨g3, 0, none⟩, c3 := c3 } D)) := (Turned.refl (fun k => k = w.heap.size + 1) w4).setRow (fun _ => rfl) _
      have hI9 := RDin.turn HH.out HI4.out ht9 (fun k hk => by have := HZ1.out; omega)
      have hO9 := (HO4.out.kept ht9 (fun g hg => by have := (HO4.out.own_ge hg).1; have := HZ1.out; omega)).listA
      exact (hI9.new_fen (some ⟨g3, 0, none⟩) c3 D.fen hO9 ⟨hn3, hc3⟩ HH.out.ok.fen (fun k hk => by have := lies_own hk rfl; have := HZ1.out; omega)).out (by have := HZ1.out; omega)
set_option maxRecDepth 100000 in
set_option maxHeartbeats 4000000 in
theorem rfail_any (n : Int) (hn : okI n) (A2 : Option Addr) (c2 : Nat) (l : List Int) (hl : ListAt w w.heap.size 1 A2 (l.map intC)) (hlen : l.length ≤ 1000000) (hlok : ∀ n ∈ l, okI n) : Calls Try.prog 49 #[.agg (rv p D), .int .i64 n, .slice A2 l.length c2] w fun er w' => ∃ p', er = .returned (.agg (rv p' (failD D n l))) ∧ RDid w w' p D p' (failD D n l) := by
  have hb := (Blk.new w 32 (rv p D) rfl).alloc (.cells #[.slice none 0 0, .slice none 0 0, .slice none 0 0, .slice none 0 0, .bool false, .int .i64 0, .slice none 0 0] 32)
  have hr := Blk.new (w.alloc (.cells (rv p D) 32)) 32 #[.slice none 0 0, .slice none 0 0, .slice none 0 0, .slice none 0 0, .bool false, .int .i64 0, .slice none 0 0] (n := w.heap.size + 1) (by simp)
  have hG0 := ((Grew.refl w).alloc (.cells (rv p D) 32)).alloc (.cells #[.slice none 0 0, .slice none 0 0, .slice none 0 0, .slice none 0 0, .bool false, .int .i64 0, .slice none 0 0] 32)
  obtain ⟨w1, hw1⟩ : ∃ w1, w1 = (w.alloc (.cells (rv p D) 32)).alloc (.cells #[.slice none 0 0, .slice none 0 0, .slice none 0 0, .slice none 0 0, .bool false, .int .i64 0, .slice none 0 0] 32) := ⟨_, rfl⟩
  rw [← hw1] at hb hr hG0
  have hz1 : w1.heap.size = w.heap.size + 2 := by rw [hw1]; simp
  rw [show rv p D = #[.slice p.A0 D.st.length p.c0, .slice p.A1 D.st.length p.c1, .slice p.A2 D.pend.length p.c2, .slice p.A3 5 p.c3, .bool D.failed, .int .i64 p.fu, .slice p.A6 p.svl.length p.c6] from rfl] at hw1 ⊢
  have HH := Lib.hid h
  have HG0 := Lib.hid hG0
  have HLS := Lib.hid hl
  have HZ1 := Lib.hid hz1
  unfold okI at hn
  have x4 := hb.cell 4
  unfold rv at x4
  have hxl := hb.lt
  clear hl hz1
  cases hf : D.failed with
  | true =>
    rw [hf] at x4 hw1
    have HV := Lib.hid (show failD D n l = D from by unfold failD; rw [if_pos hf])
    clear h hf
    go_enter Try.func49, Try.ntmps49
    go_upto_region 1 with fail
    rw [← hw1]
    clear hw1
    go_wp2_with (first | (refine wpList_load_blk rfl 32 _ rfl (w.heap.size) rfl 32 (rv (p) (D)) _ (hb) Try.underlying32 rfl info_rdev ?_) | (refine wpList_store_blk rfl 32 _ _ rfl (w.heap.size + 1) (rv (p) (D)) rfl rfl 32 _ (hr) rfl info_rdev (rv_one _ _) ?_))
    refine bodyPost_ret (results_cell_row rfl _ _ (w.heap.size + 1) 32 (rv p D) (0, 0) _ rfl (hr.setRow _) Try.underlying32 rfl info_rdev) rfl ?_
    rw [HV.out]
    exact ⟨p, rfl, RDid.same HH.out (HG0.out.setRow (by omega) _)⟩
  | false =>
    rw [hf] at x4 hw1
    have HV := Lib.hid (show failD D n l = { D with fuse := some ((max 0 n).toNat, l) } from by unfold failD; rw [if_neg (by rw [hf]; decide)])
    have HF := Lib.hid hf
    have HI0 := Lib.hid (RDin.start w1.heap.size h hG0)
    have x5 := hb.cell 5
    have x6 := hb.cell 6
    have f5 := hb.frozen 5
    have f6 := hb.frozen 6
    unfold rv at x5 x6
    have hx1 : w.heap.size < w1.heap.size := hxl
    clear h hf
    go_enter Try.func49, Try.ntmps49
    go_upto_region 1 with fail
    rw [← hw1]
    clear hw1
    go_upto_region 3 with (at_builtin; refine wpList_dup w1 (by rfl) _ _ 30 rfl 3 1 8 _ Try.underlying30 info_int rfl (by decide) (l.map intC) (by rfl) _ l.length _ (by rfl) (intC_len _).symm (intC_row _) (HLS.out.on HG0.out) (intC_one _) (by omega) (by omega) ?_; intro g3 c3 w3 hown1 hg3 hgl3 hgb3 hn3 hc3; have x5 := (hg3.cellEq _ _ hxl).trans x5; have f5 := (hg3.frozenEq _ _ hxl).trans f5; have x6 := (hg3.cellEq _ _ hxl).trans x6; have f6 := (hg3.frozenEq _ _ hxl).trans f6; have hx3 : w.heap.size < w3.heap.size := Nat.lt_of_lt_of_le hxl hg3.size)
    have hge3 : w.heap.size + 2 ≤ g3 := by have := HZ1.out; omega
    rw [show (if n < (0 : Int) then (0 : Int) else n) = max 0 n from by split <;> omega]
    obtain ⟨m, hm⟩ : ∃ m, max 0 n = m := ⟨_, rfl⟩
    have hm0 : 0 ≤ m ∧ m ≤ 9223372036854775807 := by omega
    have HM := Lib.hid hm
    rw [hm] at HV ⊢
    clear hm
    have hb4 : Blk ((w3.setCell ⟨w.heap.size, 5, none⟩ (.int .i64 m)).setCell ⟨w.heap.size, 6, none⟩ (.slice (some ⟨g3, 0, none⟩) l.length c3)) w.heap.size 32 (rv { p with fu := m, A6 := some ⟨g3, 0, none⟩, c6 := c3, svl := l } { D with fuse := some (m.toNat, l) }) := (((hb.grew hg3).set_ 5 _).set_ 6 _).conv rfl
    have hr4 := ((hr.grew hg3).far (p := ⟨w.heap.size, 5, none⟩) (by simp) (.int .i64 m)).far (p := ⟨w.heap.size, 6, none⟩) (by simp) (.slice (some ⟨g3, 0, none⟩) l.length c3)
    have ht4 : Turned (fun k => k = w.heap.size ∨ k = w.heap.size + 1) w3 ((w3.setCell ⟨w.heap.size, 5, none⟩ (.int .i64 m)).setCell ⟨w.heap.size, 6, none⟩ (.slice (some ⟨g3, 0, none⟩) l.length c3)) := ((Turned.refl _ w3).setCell (p := ⟨w.heap.size, 5, none⟩) (fun _ => .inl rfl) _).setCell (p := ⟨w.heap.size, 6, none⟩) (fun _ => .inl rfl) _
    obtain ⟨w4, hw4⟩ : ∃ w4, w4 = (w3.setCell ⟨w.heap.size, 5, none⟩ (.int .i64 m)).setCell ⟨w.heap.size, 6, none⟩ (.slice (some ⟨g3, 0, none⟩) l.length c3) := ⟨_, rfl⟩
    rw [← hw4] at hb4 hr4 ht4 ⊢
    clear hw4 x5 x6 f5 f6
    go_wp2_with (first | (refine wpList_load_blk rfl 32 _ rfl (w.heap.size) rfl 32 (rv ({ p with fu := m, A6 := some ⟨g3, 0, none⟩, c6 := c3, svl := l }) ({ D with fuse := some (m.toNat, l) })) _ (hb4) Try.underlying32 rfl info_rdev ?_) | (refine wpList_store_blk rfl 32 _ _ rfl (w.heap.size + 1) (rv ({ p with fu := m, A6 := some ⟨g3, 0, none⟩, c6 := c3, svl := l }) ({ D with fuse := some (m.toNat, l) })) rfl rfl 32 _ (hr4) rfl info_rdev (rv_one _ _) ?_))
    refine bodyPost_ret (results_cell_row rfl _ _ (w.heap.size + 1) 32 (rv { p with fu := m, A6 := some ⟨g3, 0, none⟩, c6 := c3, svl := l } { D with fuse := some (m.toNat, l) }) (0, 0) _ rfl (hr4.setRow _) Try.underlying32 rfl info_rdev) rfl ?_
    rw [HV.out]
    refine ⟨{ p with fu := m, A6 := some ⟨g3, 0, none⟩, c6 := c3, svl := l }, rfl, ?_⟩
    have ht9 := ht4.setRow (g := w.heap.size + 1) (fun _ => .inr rfl) (rv { p with fu := m, A6 := some ⟨g3, 0, none⟩, c6 := c3, svl := l } { D with fuse := some (m.toNat, l) })
    have hz1 := HZ1.out
    have hI9 := RDin.turn HH.out (RDin.grow HH.out HI0.out hg3) ht9 (fun k hk => by omega)
    have hO9 := (hown1.kept ht9 (fun g hg => by have := (hown1.own_ge hg).1; omega)).listA
    have hfin := (hI9.new_fuse (some (m.toNat, l)) D.failed m (some ⟨g3, 0, none⟩) c3 l hO9 (.inr ⟨m.toNat, rfl, by omega⟩) hm0.2 hlok ⟨hn3, hc3⟩ (fun k hk => by have := lies_own hk rfl; omega)).out (by omega)
    exact hfin
set_option maxRecDepth 100000 in
set_option maxHeartbeats 4000000 in
theorem rreturn_any (sec back : Int) (hs : okI sec) (hb0 : okI back) : Calls Try.prog 52 #[.agg (rv p D), .int .i64 sec, .int .i64 back] w fun er w' => ∃ p', er = .returned (.tuple #[.agg (rv p' (returnD D sec back).1), .int .i64 (returnD D sec back).2]) ∧ RDid w w' p D p' (returnD D sec back).1 := by
  have hb := (Blk.new w 32 (rv p D) rfl).alloc (.cells #[.slice none 0 0, .slice none 0 0, .slice none 0 0, .slice none 0 0, .bool false, .int .i64 0, .slice none 0 0] 32)
  have hr := Blk.new (w.alloc (.cells (rv p D) 32)) 32 #[.slice none 0 0, .slice none 0 0, .slice none 0 0, .slice none 0 0, .bool false, .int .i64 0, .slice none 0 0] (n := w.heap.size + 1) (by simp)
  have hG0 := ((Grew.refl w).alloc (.cells (rv p D) 32)).alloc (.cells #[.slice none 0 0, .slice none 0 0, .slice none 0 0, .slice none 0 0, .bool false, .int .i64 0, .slice none 0 0] 32)
  obtain ⟨w1, hw1⟩ : ∃ w1, w1 = (w.alloc (.cells (rv p D) 32)).alloc (.cells #[.slice none 0 0, .slice none 0 0, .slice none 0 0, .slice none 0 0, .bool false, .int .i64 0, .slice none 0 0] 32) := ⟨_, rfl⟩
  rw [← hw1] at hb hr hG0
  have hz1 : w1.heap.size = w.heap.size + 2 := by rw [hw1]; simp
  rw [show rv p D = #[.slice p.A0 D.st.length p.c0, .slice p.A1 D.st.length p.c1, .slice p.A2 D.pend.length p.c2, .slice p.A3 5 p.c3, .bool D.failed, .int .i64 p.fu, .slice p.A6 p.svl.length p.c6] from rfl] at hw1 ⊢
  have HH := Lib.hid h
  have HG0 := Lib.hid hG0
  have HZ1 := Lib.hid hz1
  have hs' := hs
  unfold okI at hb0 hs'
  have hxl := hb.lt
  clear hz1
  by_cases hb1 : back < 1
  · have HV := Lib.hid (show returnD D sec back = (D, 2) from by unfold returnD; rw [if_pos (.inr (.inl hb1))])
    clear h
    go_enter Try.func52, Try.ntmps52
    go_upto_region 1 with fail
    rw [← hw1]
    clear hw1
    go_wp2_with (first | (refine wpList_load_blk rfl 32 _ rfl (w.heap.size) rfl 32 (rv (p) (D)) _ (hb) Try.underlying32 rfl info_rdev ?_) | (refine wpList_store_blk rfl 32 _ _ rfl (w.heap.size + 1) (rv (p) (D)) rfl rfl 32 _ (hr) rfl info_rdev (rv_one _ _) ?_))
    refine bodyPost_ret (results_cell_tmp_row rfl _ _ (w.heap.size + 1) 32 (rv (p) (D)) _ _ rfl rfl ((hr).setRow _) Try.underlying32 rfl info_rdev) rfl ?_
    rw [HV.out]
    exact ⟨p, rfl, RDid.same HH.out (HG0.out.setRow (by omega) _)⟩
  · have HEA := Lib.hid (rearlier_any (h.grew hG0) sec hs)
    by_cases hb2 : (earlierD D sec : Int) < back
    · have HV := Lib.hid (show returnD D sec back = (D, 2) from by
        unfold earlierD at hb2
        unfold returnD
        cases ht : thereD D sec with
        | false => rw [if_pos (.inl rfl)]
        | true =>
          rw [ht] at hb2
          rw [if_pos (.inr (.inr hb2))])
      generalize earlierD D sec = en at *
      clear h
      have x0 := hb.cell 0
      have x1 := hb.cell 1
      have x2 := hb.cell 2
      have x3 := hb.cell 3
      have x4 := hb.cell 4
      have x5 := hb.cell 5
      have x6 := hb.cell 6
      unfold rv at x0 x1 x2 x3 x4 x5 x6 HEA
      go_enter Try.func52, Try.ntmps52
      go_upto_region 1 with fail
      rw [← hw1]
      clear hw1
      go_wp2_with (first | (refine wpList_load_blk rfl 32 _ rfl (w.heap.size) rfl 32 (rv (p) (D)) _ (hb) Try.underlying32 rfl info_rdev ?_) | (refine wpList_store_blk rfl 32 _ _ rfl (w.heap.size + 1) (rv (p) (D)) rfl rfl 32 _ (hr) rfl info_rdev (rv_one _ _) ?_))
      refine HEA.out.mono ?_
      rintro er w2 ⟨rfl, g2⟩
      have hb3 := hb.grew g2
      have hr3 := hr.grew g2
      have hg3 := HG0.out.trans g2
      clear hb hr hG0 x0 x1 x2 x3 x4 x5 x6
      go_wp2_with (first | (refine wpList_load_blk rfl 32 _ rfl (w.heap.size) rfl 32 (rv (p) (D)) _ (hb3) Try.underlying32 rfl info_rdev ?_) | (refine wpList_store_blk rfl 32 _ _ rfl (w.heap.size + 1) (rv (p) (D)) rfl rfl 32 _ (hr3) rfl info_rdev (rv_one _ _) ?_))
      refine bodyPost_ret (results_cell_tmp_row rfl _ _ (w.heap.size + 1) 32 (rv (p) (D)) _ _ rfl rfl ((hr3).setRow _) Try.underlying32 rfl info_rdev) rfl ?_
      rw [HV.out]
      exact ⟨p, rfl, RDid.same HH.out (hg3.setRow (by omega) _)⟩
    · have ht : thereD D sec = true := by
        cases ht : thereD D sec with
        | true => rfl
        | false =>
          unfold earlierD at hb2
          rw [ht] at hb2
          simp at hb2
          omega
      have hed : earlierD D sec = (D.olds sec.toNat).length := by unfold earlierD; rw [if_pos ht]
      rw [hed] at hb2 HEA
      have h0 := of_decide_eq_true ht
      obtain ⟨k, rfl⟩ : ∃ k : Nat, sec = (k : Int) := ⟨sec.toNat, by omega⟩
      rw [Int.toNat_natCast] at hb2 HEA
      obtain ⟨j, rfl⟩ : ∃ j : Nat, back = (j : Int) + 1 := ⟨back.toNat - 1, by omega⟩
      have hjl : j < (D.olds k).length := by omega
      have hkl : k < D.st.length := by omega
      have HV := Lib.hid (show returnD D k ((j : Int) + 1) = ({ D with st := D.st.set k (D.olds k)[j] }, 0) from by
        unfold returnD
        rw [if_neg (by rw [ht, Int.toNat_natCast]; simp; omega), Int.toNat_natCast, show ((j : Int) + 1).toNat - 1 = j by omega, List.getD_eq_getElem?_getD, List.getElem?_eq_getElem hjl]; rfl)
      obtain ⟨Ao, co, b1, off1, _, hcap, hlo, hA1, hb1', y1⟩ := h.old_at hkl
      obtain ⟨bo, off, hAo, hbo, z0⟩ := str_at hlo hjl
      have HSZ := Lib.hid (olds_size h.ok k _ (List.getElem_mem hjl))
      have HA1 := Lib.hid hA1
      have HAo := Lib.hid hAo
      have HI0 := Lib.hid (RDin.start w1.heap.size h hG0)
      have HST := Lib.hid h.st
      clear hA1 hAo
      have hlim := h.ok.lim
      have HOK := Lib.hid h.ok.st
      have hol := olds_len h.ok k
      unfold capOk at hcap
      have hcp1 := h.cap1
      unfold capOk at hcp1
      generalize (D.olds k)[j] = u at *
      generalize (D.olds k).length = ln at *
      have x0 := hb.cell 0
      have x1 := hb.cell 1
      have x2 := hb.cell 2
      have x3 := hb.cell 3
      have x4 := hb.cell 4
      have x5 := hb.cell 5
      have x6 := hb.cell 6
      unfold rv at x0 x1 x2 x3 x4 x5 x6 HEA
      have hx1 : w.heap.size < w1.heap.size := hxl
      have HB := Lib.hid hb
      have HR := Lib.hid hr
      clear h hed ht hlo
      go_enter Try.func52, Try.ntmps52
      go_upto_region 1 with fail
      rw [← hw1]
      clear hw1
      go_wp2_with (first | (refine wpList_load_blk rfl 32 _ rfl (w.heap.size) rfl 32 (rv (p) (D)) _ (hb) Try.underlying32 rfl info_rdev ?_) | (refine wpList_store_blk rfl 32 _ _ rfl (w.heap.size + 1) (rv (p) (D)) rfl rfl 32 _ (hr) rfl info_rdev (rv_one _ _) ?_))
      refine HEA.out.mono ?_
      rintro er w2 ⟨rfl, g2⟩
      have hb2 := hb.grew g2
      have hr2 := hr.grew g2
      have HI2 := Lib.hid (RDin.grow HH.out HI0.out g2)
      have hz2 := g2.size
      have hxl2 := hb2.lt
      have y0 := hb2.cell 0
      have f0 := hb2.frozen 0
      unfold rv at y0
      have HR2 := Lib.hid hr2
      have HB2 := Lib.hid hb2
      clear hb hr hG0 x0 x1 x2 x3 x4 x5 x6 hb2 hr2
      have HST2 := Lib.hid ((HST.out.on HG0.out).on g2)
      have hgw2 : Grew w w2 := HG0.out.trans g2
      have Y1 := Lib.hid ((hgw2.cellEq _ _ hb1').trans y1)
      have Z0 := Lib.hid ((hgw2.cellEq _ _ (by exact hbo)).trans z0)
      have hzw := HZ1.out
      have HZW := Lib.hid hzw
      have hb1w : b1 < w2.heap.size := by omega
      have hbow : bo < w2.heap.size := by omega
      have hb1n : ¬ b1 = w.heap.size := by omega
      clear y1 z0 hgw2 hzw g2
      go_upto_region 4 with (at_builtin; refine wpList_dup w2 (by rfl) _ _ 27 rfl 9 1 16 _ Try.underlying27 info_str rfl (by decide) (D.st.map strC) (by rfl) _ D.st.length _ (by rfl) (strC_len _).symm (strC_row _) HST2.out (strC_one _) (by omega) (by omega) ?_; intro g3 c3 w3 hown1 hg3 hgl3 hgb3 hn3 hc3; have y0 := (hg3.cellEq _ _ hxl2).trans y0; have f0 := (hg3.frozenEq _ _ hxl2).trans f0; have hx3 : w.heap.size < w3.heap.size := Nat.lt_of_lt_of_le hxl2 hg3.size)
      have hge3 : w.heap.size + 2 ≤ g3 := by have := HZW.out; omega
      have hb4 : Blk (w3.setCell ⟨w.heap.size, 0, none⟩ (.slice (some ⟨g3, 0, none⟩) D.st.length c3)) w.heap.size 32 (rv { p with A0 := some ⟨g3, 0, none⟩, c0 := c3 } D) := ((HB2.out.grew hg3).set_ 0 _).conv rfl
      have hr4 := (HR2.out.grew hg3).far (p := ⟨w.heap.size, 0, none⟩) (by simp) (.slice (some ⟨g3, 0, none⟩) D.st.length c3)
      have hown4 := hown1.far (p := ⟨w.heap.size, 0, none⟩) (own_ne _ _ (by show g3 ≠ w.heap.size; omega)) (.slice (some ⟨g3, 0, none⟩) D.st.length c3)
      have ht4 : Turned (fun k => k = w.heap.size) w3 (w3.setCell ⟨w.heap.size, 0, none⟩ (.slice (some ⟨g3, 0, none⟩) D.st.length c3)) := (Turned.refl (fun k => k = w.heap.size) w3).setCell (p := ⟨w.heap.size, 0, none⟩) (fun _ => rfl) _
      have HI4 := Lib.hid (RDin.turn HH.out (RDin.grow HH.out HI2.out hg3) ht4 (fun k hk => by have := HZW.out; omega))
      have y1 := (ht4.cellEq b1 (off1 + k) (by have := hg3.size; omega) hb1n).trans ((hg3.cellEq _ _ hb1w).trans Y1.out)
      have z0 := (ht4.cellEq bo (off + j) (by have := hg3.size; omega) (by omega)).trans ((hg3.cellEq _ _ hbow).trans Z0.out)
      have hz34 := ht4.size
      obtain ⟨w4, hw4⟩ : ∃ w4, w4 = w3.setCell ⟨w.heap.size, 0, none⟩ (.slice (some ⟨g3, 0, none⟩) D.st.length c3) := ⟨_, rfl⟩
      rw [← hw4] at hb4 hr4 hown4 HI4 y1 z0 hz34 ⊢
      rw [HAo.out] at y1
      clear hw4 hown1 y0 f0 ht4 hg3
      have HB4 := Lib.hid hb4
      have HR4 := Lib.hid hr4
      have HO4 := Lib.hid hown4
      have x0 := hb4.cell 0
      have x1 := hb4.cell 1
      unfold rv at x0 x1
      simp only [HA1.out] at x1
      have hrow : (D.st.map strC)[k]? = some (strC D.st[k]) := by rw [List.getElem?_map, List.getElem?_eq_getElem hkl]; rfl
      have c0 := hown4.cell (i := 0) hrow rfl
      rw [Nat.mul_one, Nat.add_zero] at c0
      have d0 := hown4.frozen k
      have hgl4 := (hown4.own_ge (g := g3) rfl).2
      have HROW := Lib.hid hrow
      have hwr : IntKind.i64.wrap (j : Int) = (j : Int) := by rw [IntKind.wrap_i64]; omega
      have hj1 : (j : Int) + 1 - 1 = (j : Int) := by omega
      have hS := (show (fun w' : World => w'.cell? ⟨w.heap.size, 0, none⟩ = some (.slice (some ⟨g3, 0, none⟩) D.st.length c3) ∧ w'.cell? ⟨w.heap.size, 1, none⟩ = some (.slice (some ⟨b1, off1, none⟩) D.st.length p.c1) ∧ w'.cell? ⟨b1, off1 + k, none⟩ = some (.slice (some ⟨bo, off, none⟩) ln co) ∧ w'.cell? ⟨bo, off + j, none⟩ = some (.string u)) w4.drew from ⟨x0, x1, y1, z0⟩)
      clear hb4 hr4 hown4 x0 x1 y1 z0 hrow
      refine wp_region_R [13] (fun w' : World => w'.cell? ⟨w.heap.size, 0, none⟩ = some (.slice (some ⟨g3, 0, none⟩) D.st.length c3) ∧ w'.cell? ⟨w.heap.size, 1, none⟩ = some (.slice (some ⟨b1, off1, none⟩) D.st.length p.c1) ∧ w'.cell? ⟨b1, off1 + k, none⟩ = some (.slice (some ⟨bo, off, none⟩) ln co) ∧ w'.cell? ⟨bo, off + j, none⟩ = some (.string u)) (by kernel_rfl) ?_
      refine wpAnyR_takeQ (i := 0) (v := ?_) (some 23) rfl rfl (by kernel_rfl) (by kernel_rfl) (by kernel_rfl) (by kernel_rfl) (fun _ _ _ h => h) (Or.inl ⟨by rfl, ?_⟩) ?_
      rotate_left
      focus (intro wS hSw; (try dsimp only at hSw); go_simp; (try with_reducible rfl); (try (first | (rw [if_pos (by omega)]; (try go_simp); (try with_reducible rfl)) | (rw [if_neg (by omega)]; (try go_simp); (try with_reducible rfl)))))
      try simp only [Act.put, List.setIfInBounds_toArray, List.set_cons_zero, List.set_cons_succ]
      refine wpAnyR_take (i := 1) (v := ?_) [12, 13] (some 24) rfl rfl (by kernel_rfl) (by kernel_rfl) (by kernel_rfl) (by kernel_rfl) (by kernel_rfl) (by kernel_rfl) (by kernel_rfl) (fun _ _ _ h => h) (Or.inl ⟨by rfl, ?_⟩) hS ?_
      rotate_left
      focus (intro wS hSw; (try dsimp only at hSw); go_simp; (try with_reducible rfl); (try (first | (rw [if_pos (by omega)]; (try go_simp); (try with_reducible rfl)) | (rw [if_neg (by omega)]; (try go_simp); (try with_reducible rfl)))))
      try simp only [Act.put, List.setIfInBounds_toArray, List.set_cons_zero, List.set_cons_succ]
      refine wpAnyR_takeQ (i := 2) (v := ?_) (some 25) rfl rfl (by kernel_rfl) (by kernel_rfl) (by kernel_rfl) (by kernel_rfl) (fun _ _ _ h => h) (Or.inl ⟨by rfl, ?_⟩) ?_
      rotate_left
      focus (intro wS hSw; (try dsimp only at hSw); go_simp; (try with_reducible rfl); (try (first | (rw [if_pos (by omega)]; (try go_simp); (try with_reducible rfl)) | (rw [if_neg (by omega)]; (try go_simp); (try with_reducible rfl)))))
      try simp only [Act.put, List.setIfInBounds_toArray, List.set_cons_zero, List.set_cons_succ]
      refine wpAnyR_takeQ (i := 3) (v := ?_) (some 26) rfl rfl (by kernel_rfl) (by kernel_rfl) (by kernel_rfl) (by kernel_rfl) (fun _ _ _ h => h) (Or.inl ⟨by rfl, ?_⟩) ?_
      rotate_left
      focus (intro wS hSw; (try dsimp only at hSw); go_simp; (try with_reducible rfl); (try (first | (rw [if_pos (by omega)]; (try go_simp); (try with_reducible rfl)) | (rw [if_neg (by omega)]; (try go_simp); (try with_reducible rfl)))))
      try simp only [Act.put, List.setIfInBounds_toArray, List.set_cons_zero, List.set_cons_succ]
      refine wpAnyR_take (i := 4) (v := ?_) [6, 7, 10, 11, 12, 13] (some 27) rfl rfl (by kernel_rfl) (by kernel_rfl) (by kernel_rfl) (by kernel_rfl) (by kernel_rfl) (by kernel_rfl) (by kernel_rfl) (fun _ _ _ h => h) (Or.inl ⟨by rfl, ?_⟩) hS ?_
      rotate_left
      focus (intro wS hSw; (try dsimp only at hSw); go_simp; (try with_reducible rfl); (try (first | (rw [if_pos (by omega)]; (try go_simp); (try with_reducible rfl)) | (rw [if_neg (by omega)]; (try go_simp); (try with_reducible rfl)))))
      try simp only [Act.put, List.setIfInBounds_toArray, List.set_cons_zero, List.set_cons_succ]
      refine wpAnyR_takeQ (i := 5) (v := ?_) (some 28) rfl rfl (by kernel_rfl) (by kernel_rfl) (by kernel_rfl) (by kernel_rfl) (fun _ _ _ h => h) (Or.inl ⟨by rfl, ?_⟩) ?_
      rotate_left
      focus (intro wS hSw; (try dsimp only at hSw); go_simp; (try with_reducible rfl); (try (first | (rw [if_pos (by omega)]; (try go_simp); (try with_reducible rfl)) | (rw [if_neg (by omega)]; (try go_simp); (try with_reducible rfl)))))
      try simp only [Act.put, List.setIfInBounds_toArray, List.set_cons_zero, List.set_cons_succ]
      refine wpAnyR_takeQ (i := 6) (v := ?_) (some 29) rfl rfl (by kernel_rfl) (by kernel_rfl) (by kernel_rfl) (by kernel_rfl) (fun _ _ _ h => h) (Or.inl ⟨by rfl, ?_⟩) ?_
      rotate_left
      focus (intro wS hSw; (try dsimp only at hSw); go_simp; (try with_reducible rfl); (try (first | (rw [if_pos (by omega)]; (try go_simp); (try with_reducible rfl)) | (rw [if_neg (by omega)]; (try go_simp); (try with_reducible rfl)))))
      try simp only [Act.put, List.setIfInBounds_toArray, List.set_cons_zero, List.set_cons_succ]
      refine wpAnyR_take (i := 7) (v := ?_) [10, 11, 12, 13] (some 30) rfl rfl (by kernel_rfl) (by kernel_rfl) (by kernel_rfl) (by kernel_rfl) (by kernel_rfl) (by kernel_rfl) (by kernel_rfl) (fun _ _ _ h => h) (Or.inl ⟨by rfl, ?_⟩) hS ?_
      rotate_left
      focus (intro wS hSw; (try dsimp only at hSw); go_simp; (try with_reducible rfl); (try (first | (rw [if_pos (by omega)]; (try go_simp); (try with_reducible rfl)) | (rw [if_neg (by omega)]; (try go_simp); (try with_reducible rfl)))))
      try simp only [Act.put, List.setIfInBounds_toArray, List.set_cons_zero, List.set_cons_succ]
      refine wpAnyR_takeQ (i := 8) (v := ?_) (some 31) rfl rfl (by kernel_rfl) (by kernel_rfl) (by kernel_rfl) (by kernel_rfl) (fun _ _ _ h => h) (Or.inl ⟨by rfl, ?_⟩) ?_
      rotate_left
      focus (intro wS hSw; (try dsimp only at hSw); go_simp; (try with_reducible rfl); (try (first | (rw [if_pos (by omega)]; (try go_simp); (try with_reducible rfl)) | (rw [if_neg (by omega)]; (try go_simp); (try with_reducible rfl)))))
      try simp only [Act.put, List.setIfInBounds_toArray, List.set_cons_zero, List.set_cons_succ]
      refine wpAnyR_takeQ (i := 9) (v := ?_) (some 32) rfl rfl (by kernel_rfl) (by kernel_rfl) (by kernel_rfl) (by kernel_rfl) (fun _ _ _ h => h) (Or.inl ⟨by rfl, ?_⟩) ?_
      rotate_left
      focus (intro wS hSw; (try dsimp only at hSw); go_simp; (try with_reducible rfl); (try (first | (rw [if_pos (by omega)]; (try go_simp); (try with_reducible rfl)) | (rw [if_neg (by omega)]; (try go_simp); (try with_reducible rfl)))))
      try simp only [Act.put, List.setIfInBounds_toArray, List.set_cons_zero, List.set_cons_succ]
      refine wpAnyR_takeQ (i := 10) (v := ?_) (some 33) rfl rfl (by kernel_rfl) (by kernel_rfl) (by kernel_rfl) (by kernel_rfl) (fun _ _ _ h => h) (Or.inl ⟨by rfl, ?_⟩) ?_
      rotate_left
      focus (intro wS hSw; (try dsimp only at hSw); go_simp; (try with_reducible rfl); (try (first | (rw [if_pos (by omega)]; (try go_simp); (try with_reducible rfl)) | (rw [if_neg (by omega)]; (try go_simp); (try with_reducible rfl)))))
      try simp only [Act.put, List.setIfInBounds_toArray, List.set_cons_zero, List.set_cons_succ]
      refine wpAnyR_take (i := 11) (v := ?_) [12, 13] (some 34) rfl rfl (by kernel_rfl) (by kernel_rfl) (by kernel_rfl) (by kernel_rfl) (by kernel_rfl) (by kernel_rfl) (by kernel_rfl) (fun _ _ _ h => h) (Or.inl ⟨by rfl, ?_⟩) hS ?_
      rotate_left
      focus (intro wS hSw; (try dsimp only at hSw); go_simp; (try with_reducible rfl); (try (first | (rw [if_pos (by omega)]; (try go_simp); (try with_reducible rfl)) | (rw [if_neg (by omega)]; (try go_simp); (try with_reducible rfl)))))
      try simp only [Act.put, List.setIfInBounds_toArray, List.set_cons_zero, List.set_cons_succ]
      refine wpAnyR_takeQ (i := 12) (v := ?_) (some 35) rfl rfl (by kernel_rfl) (by kernel_rfl) (by kernel_rfl) (by kernel_rfl) (fun _ _ _ h => h) (Or.inl ⟨by rfl, ?_⟩) ?_
      rotate_left
      focus (intro wS hSw; (try dsimp only at hSw); go_simp; (try with_reducible rfl); (try (first | (rw [if_pos (by omega)]; (try go_simp); (try with_reducible rfl)) | (rw [if_neg (by omega)]; (try go_simp); (try with_reducible rfl)))))
      try simp only [Act.put, List.setIfInBounds_toArray, List.set_cons_zero, List.set_cons_succ]
      refine wpAnyR_n1 (i := 13) rfl (by kernel_rfl) ?_
      intro K' hK
      rw [if_pos (by rfl)]
      simp only [List.getElem_toArray, List.getElem_cons_succ, List.getElem_cons_zero]
      go_wp2_with fail
      refine hK.out _ _ (.inl rfl) ?_
      clear hK hS
      refine wpAnyR_done (by kernel_rfl) ?_ _
      have hs4 := (HO4.out.set_ (j := k) (i := 0) (o := k) HROW.out (by omega) (by omega) (.string u)).drew
      have he4 : (D.st.map strC).set k ((strC D.st[k]).set 0 (.string u)) = (D.st.set k u).map strC := by rw [List.map_set]; rfl
      rw [he4] at hs4
      have hb5 := (HB4.out.far (p := ⟨g3, k, none⟩) (by simp; omega) (.string u)).drew
      have hr5 := (HR4.out.far (p := ⟨g3, k, none⟩) (by simp; omega) (.string u)).drew
      have ht5 : Turned (fun k => k = w.heap.size + 1 ∨ k = g3) w4 (w4.setCell ⟨g3, k, none⟩ (.string u)).drew := ((Turned.refl _ w4).setCell (p := ⟨g3, k, none⟩) (fun _ => .inr rfl) _).drew
      obtain ⟨w5, hw5⟩ : ∃ w5, w5 = (w4.setCell ⟨g3, k, none⟩ (.string u)).drew := ⟨_, rfl⟩
      rw [← hw5] at hb5 hr5 hs4 ht5 ⊢
      clear hw5 c0 d0
      have HS5 := Lib.hid hs4
      clear hs4 he4
      obtain ⟨S, hSt⟩ : ∃ S, D.st.set k u = S := ⟨_, rfl⟩
      have hSl : D.st.length = S.length := by rw [← hSt, List.length_set]
      have HSL := Lib.hid hSl
      have HSOK := Lib.hid (show ∀ s ∈ S, s.size = 140 from fun s hs => by
        rw [← hSt] at hs
        rcases List.mem_or_eq_of_mem_set hs with hs | rfl
        · exact HOK.out s hs
        · exact HSZ.out)
      rw [hSt] at HV HS5
      clear hSt hSl
      go_wp2_with (first | (refine wpList_load_blk rfl 32 _ rfl (w.heap.size) rfl 32 (rv ({ p with A0 := some ⟨g3, 0, none⟩, c0 := c3 }) (D)) _ (hb5) Try.underlying32 rfl info_rdev ?_) | (refine wpList_store_blk rfl 32 _ _ rfl (w.heap.size + 1) (rv ({ p with A0 := some ⟨g3, 0, none⟩, c0 := c3 }) (D)) rfl rfl 32 _ (hr5) rfl info_rdev (rv_one _ _) ?_))
      refine bodyPost_ret (results_cell_tmp_row rfl _ _ (w.heap.size + 1) 32 (rv ({ p with A0 := some ⟨g3, 0, none⟩, c0 := c3 }) (D)) _ _ rfl rfl ((hr5).setRow _) Try.underlying32 rfl info_rdev) rfl ?_
      rw [HV.out]
      refine ⟨{ p with A0 := some ⟨g3, 0, none⟩, c0 := c3 }, by unfold rv; rw [HSL.out]; rfl, ?_⟩
      have ht6 : Turned (fun k => k = w.heap.size + 1) w5 (w5.setRow (w.heap.size + 1) (rv { p with A0 := some ⟨g3, 0, none⟩, c0 := c3 } D)) := (Turned.refl (fun k => k = w.heap.size + 1) w5).setRow (fun _ => rfl) _
      have ht9 := ht5.trans (ht6.mono (T := fun k => k = w.heap.size + 1 ∨ k = g3) (fun _ _ h => .inl h))
      have hz1 := HZ1.out
      have hi4 : RDin w w1.heap.size w4 p D p D := HI4.out
      have hr9 : RefM (w5.setRow (w.heap.size + 1) (rv { p with A0 := some ⟨g3, 0, none⟩, c0 := c3 } D)) p D := hi4.ref.turned ht9 (fun i hi hs => by
        have := HH.out.lt i hi
        omega)
      have hI9 : RDin w w1.heap.size (w5.setRow (w.heap.size + 1) (rv { p with A0 := some ⟨g3, 0, none⟩, c0 := c3 } D)) p D p D := ⟨hr9, hi4.grew.turn ht9 (fun i hi => by omega), hi4.feet⟩
      have hO9 := (HS5.out.kept ht6 (fun g hg => by have := (HS5.out.own_ge hg).1; omega)).listA
      have hzz : w1.heap.size ≤ w2.heap.size := hz2
      exact (hI9.new_st (some ⟨g3, 0, none⟩) c3 S hO9 HSL.out.symm ⟨by rw [← HSL.out]; exact hn3, hc3⟩ HSOK.out (fun k hk => by have := lies_own hk rfl; omega)).out (by omega)
end
end Go.Proofs.Ytklojcgbokmkhaa
