/- Chapter 3: the reference's use. -/
import Derived.Test.YtklojcgbokmkhaaDevT
import Derived.Laws.ResultCell
namespace Go.Proofs.Ytklojcgbokmkhaa
set_option linter.unusedVariables false
set_option linter.unusedSimpArgs false
set_option linter.unusedSectionVars false
open Go.RowKit
open Go.Maps (Keyed)
attribute [local go_sem ↓] Go.wp_at_zero Go.wp_at_succ
theorem results_cell_tmp_row {P : Program} {fn : Func} {p u : Tmp} {ty : TypeId} (h : fn.results = #[.cell p ty, .tmp u]) (tmps : Array Value) (w : World) (g : Nat) (t : TypeId) (cs : Array Value) (d : TypeDesc) (v : Value)
    (hp : tmps.getD p undef = .pointer (some ⟨g, 0, none⟩)) (hv : tmps.getD u undef = v) (hg : Blk w g t cs)
    (hu : P.underlying ty = some d) (hd : (match d with | .struct _ | .array _ _ => true | _ => false) = true) (hi : (P.info? ty).map (·.size) = some cs.size) :
    (results fn tmps).run P w = .ok (.tuple #[.agg cs, v]) w := by
  rw [results_cell_tmp h, hp, hv]
  simp [asAddr, run_loadVar_row w g t ty cs (0, 0) d hg hu hd hi, Result.andThen, Sem.run_pure]
theorem RefM.with_fuse {w : World} {p : RefP} {D : Dev} (h : RefM w p D) (F : Option (Nat × List Int)) (b : Bool) (u : Int) (A : Option Addr) (c : Nat) (l : List Int) (hsv : ListAt w w.heap.size 1 A (l.map intC)) (hf : (F = none ∧ u = -1) ∨ ∃ n : Nat, F = some (n, l) ∧ u = n) (hub : u ≤ 9223372036854775807) (hok : ∀ n ∈ l, okI n) (hc : capOk l.length c) :
    RefM w { p with fu := u, A6 := A, c6 := c, svl := l } { D with fuse := F, failed := b } :=
  ⟨h.st, h.old, h.olen, h.each, h.pend, h.fen, hsv, hf, hub, hok, h.cap0, h.cap1, h.cap2, h.cap3, hc, ⟨h.ok.len, h.ok.pos, h.ok.lim, h.ok.st, h.ok.old, h.ok.pend, h.ok.fen⟩⟩
theorem RefM.set_fuse {w : World} {p : RefP} {D : Dev} (h : RefM w p D) (F : Option (Nat × List Int)) (b : Bool) (u : Int) (hf : (F = none ∧ u = -1) ∨ ∃ n : Nat, F = some (n, p.svl) ∧ u = n) (hub : u ≤ 9223372036854775807) :
    RefM w { p with fu := u } { D with fuse := F, failed := b } := h.with_fuse F b u p.A6 p.c6 p.svl h.sv hf hub h.svok h.cap6
theorem RDid.seal {w w1 w2 W : World} {p q : RefP} {D E : Dev} {S : Nat → Prop} (h : RefM w p D) (hg : Grew w w1) (hd : RDid w1 w2 p D q E) (ht : Turned S w2 W) (hS : ∀ k, S k → w.heap.size ≤ k ∧ k < w1.heap.size) : RDid w W p D q E :=
  ⟨hd.ref.turned ht (fun k hk hs => by
    have h1 := hS k hs
    rcases hd.feet k hk with h9 | h9
    · have := h.lt k h9; omega
    · omega), (hg.trans hd.grew).turn ht (fun k hk => (hS k hk).1), fun k hk => (hd.feet k hk).imp id (fun h9 => Nat.le_trans hg.size h9)⟩
theorem RDid.refuse {w W : World} {p q : RefP} {D E : Dev} (h : RDid w W p D q E) (F : Option (Nat × List Int)) (b : Bool) (u : Int) (hf : (F = none ∧ u = -1) ∨ ∃ n : Nat, F = some (n, q.svl) ∧ u = n) (hub : u ≤ 9223372036854775807) : RDid w W p D { q with fu := u } { E with fuse := F, failed := b } :=
  ⟨h.ref.set_fuse F b u hf hub, h.grew, fun k hk => h.feet k hk⟩
/-- The same within a call: the call's own blocks lie below n. -/
structure RDin (w : World) (n : Nat) (W : World) (p : RefP) (D : Dev) (q : RefP) (E : Dev) : Prop where
  ref : RefM W q E
  grew : Grew w W
  feet : ∀ k, q.feet E k → p.feet D k ∨ n ≤ k
theorem RDin.start {w W : World} {p : RefP} {D : Dev} (n : Nat) (h : RefM w p D) (hg : Grew w W) : RDin w n W p D p D := ⟨h.grew hg, hg, fun _ h => .inl h⟩
theorem RDin.step {w W W' : World} {n : Nat} {p q r : RefP} {D E F : Dev} (hi : RDin w n W p D q E) (hd : RDid W W' q E r F) (hn : n ≤ W.heap.size) : RDin w n W' p D r F :=
  ⟨hd.ref, hi.grew.trans hd.grew, fun k hk => (hd.feet k hk).elim (hi.feet k) (fun h => .inr (Nat.le_trans hn h))⟩
theorem RDin.turn {w W W' : World} {n : Nat} {p q : RefP} {D E : Dev} {S : Nat → Prop} (h : RefM w p D) (hi : RDin w n W p D q E) (ht : Turned S W W') (hS : ∀ k, S k → w.heap.size ≤ k ∧ k < n) : RDin w n W' p D q E :=
  ⟨hi.ref.turned ht (fun k hk hs => by
    have h1 := hS k hs
    rcases hi.feet k hk with h9 | h9
    · have := h.lt k h9; omega
    · omega), hi.grew.turn ht (fun k hk => (hS k hk).1), hi.feet⟩
theorem RDin.out {w W : World} {n : Nat} {p q : RefP} {D E : Dev} (hi : RDin w n W p D q E) (hn : w.heap.size ≤ n) : RDid w W p D q E := ⟨hi.ref, hi.grew, fun k hk => (hi.feet k hk).imp id (Nat.le_trans hn)⟩
theorem prR_zero : prR 0 = fun _ => true := rfl
theorem svR_false (l : List Int) : svR false l = svN l := rfl
section
variable {w : World} {p : RefP} {D : Dev} (h : RefM w p D)
include h
set_option maxRecDepth 100000 in
set_option maxHeartbeats 4000000 in
theorem ruse_any (hsmall : D.pend.length ≤ 1000000) : Calls Try.prog 61 #[.agg (rv p D)] w fun e w' => ∃ p', e = .returned (.tuple #[.agg (rv p' (useD D).1), .bool (useD D).2]) ∧ RDid w w' p D p' (useD D).1 := by
  have hb := (Blk.new w 32 (rv p D) rfl).alloc (.cells #[.slice none 0 0, .slice none 0 0, .slice none 0 0, .slice none 0 0, .bool false, .int .i64 0, .slice none 0 0] 32)
  have hr := Blk.new (w.alloc (.cells (rv p D) 32)) 32 #[.slice none 0 0, .slice none 0 0, .slice none 0 0, .slice none 0 0, .bool false, .int .i64 0, .slice none 0 0] (n := w.heap.size + 1) (by simp)
  have hG0 := ((Grew.refl w).alloc (.cells (rv p D) 32)).alloc (.cells #[.slice none 0 0, .slice none 0 0, .slice none 0 0, .slice none 0 0, .bool false, .int .i64 0, .slice none 0 0] 32)
  obtain ⟨w1, hw1⟩ : ∃ w1, w1 = (w.alloc (.cells (rv p D) 32)).alloc (.cells #[.slice none 0 0, .slice none 0 0, .slice none 0 0, .slice none 0 0, .bool false, .int .i64 0, .slice none 0 0] 32) := ⟨_, rfl⟩
  rw [← hw1] at hb hr hG0
  have hz1 : w1.heap.size = w.heap.size + 2 := by rw [hw1]; simp
  rw [show rv p D = #[.slice p.A0 D.st.length p.c0, .slice p.A1 D.st.length p.c1, .slice p.A2 D.pend.length p.c2, .slice p.A3 5 p.c3, .bool D.failed, .int .i64 p.fu, .slice p.A6 p.svl.length p.c6] from rfl] at hw1 ⊢
  have HH := Lib.hid h
  have x5 := hb.cell 5
  have f5 := hb.frozen 5
  unfold rv at x5
  have hxl := hb.lt
  rcases h.fuse with ⟨hf, hfu⟩ | ⟨n, hf, hfu⟩
  · have HV := Lib.hid (show useD D = (D, false) from by unfold useD; rw [hf])
    have HF := Lib.hid hf
    rw [hfu] at x5
    clear hfu hf h
    go_enter Try.func61, Try.ntmps61
    go_upto_region 1 with fail
    rw [← hw1]
    clear hw1
    go_upto_region 3 with fail
    have hb3 : Blk (w1.setCell ⟨w.heap.size, 5, none⟩ (.int .i64 (-1))) w.heap.size 32 (rv { p with fu := -1 } D) := (hb.set_ 5 (.int .i64 (-1))).conv rfl
    have hr3 := hr.far (p := ⟨w.heap.size, 5, none⟩) (by simp) (.int .i64 (-1))
    have hg3 := hG0.setCell (p := ⟨w.heap.size, 5, none⟩) (Nat.le_refl _) (.int .i64 (-1))
    obtain ⟨w3, hw3⟩ : ∃ w3, w3 = w1.setCell ⟨w.heap.size, 5, none⟩ (.int .i64 (-1)) := ⟨_, rfl⟩
    rw [← hw3] at hb3 hr3 hg3 ⊢
    clear hw3 hb hr hG0 x5 f5
    go_wp2_with (first | (refine wpList_load_blk rfl 32 _ rfl (w.heap.size) rfl 32 (rv ({ p with fu := -1 }) (D)) _ (hb3) Try.underlying32 rfl info_rdev ?_) | (refine wpList_store_blk rfl 32 _ _ rfl (w.heap.size + 1) (rv ({ p with fu := -1 }) (D)) rfl rfl 32 _ (hr3) rfl info_rdev (rv_one _ _) ?_))
    refine bodyPost_ret (results_cell_tmp_row rfl _ _ (w.heap.size + 1) 32 (rv { p with fu := -1 } D) _ _ rfl rfl (hr3.setRow _) Try.underlying32 rfl info_rdev) rfl ?_
    have hgr : Grew w (w3.setRow (w.heap.size + 1) (rv { p with fu := -1 } D)) := hg3.setRow (by omega) _
    rw [HV.out]
    refine ⟨{ p with fu := -1 }, rfl, ?_, hgr, fun k hk => .inl hk⟩
    have := (HH.out.grew hgr).set_fuse none D.failed (-1) (.inl ⟨rfl, rfl⟩) (by omega)
    rw [show { D with fuse := none, failed := D.failed } = D from by rw [← HF.out]] at this
    exact this
  · cases n with
    | succ n =>
      have HV := Lib.hid (show useD D = ({ D with fuse := some (n, p.svl) }, false) from by unfold useD; rw [hf])
      have hub := h.fub
      have hfu' : p.fu = (n : Int) + 1 := by rw [hfu]; omega
      rw [hfu'] at x5
      rw [hfu'] at hub
      have hne : (((n : Int) + 1) == 0) = false := beq_eq_false_iff_ne.2 (by omega)
      have hne' : (((n : Int) + 1) != 0) = true := bne_iff_ne.2 (by omega)
      have hn0 : 0 ≤ (n : Int) := by omega
      have hsub : (n : Int) + 1 - 1 = (n : Int) := by omega
      clear hfu hfu' hf h
      go_enter Try.func61, Try.ntmps61
      go_upto_region 1 with fail
      rw [← hw1]
      clear hw1
      go_upto_region 3 with fail
      have hb3 : Blk (w1.setCell ⟨w.heap.size, 5, none⟩ (.int .i64 (n : Int))) w.heap.size 32 (rv { p with fu := n } D) := (hb.set_ 5 (.int .i64 (n : Int))).conv rfl
      have hr3 := hr.far (p := ⟨w.heap.size, 5, none⟩) (by simp) (.int .i64 (n : Int))
      have hg3 := hG0.setCell (p := ⟨w.heap.size, 5, none⟩) (Nat.le_refl _) (.int .i64 (n : Int))
      obtain ⟨w3, hw3⟩ : ∃ w3, w3 = w1.setCell ⟨w.heap.size, 5, none⟩ (.int .i64 (n : Int)) := ⟨_, rfl⟩
      try rw [← hw3]
      rw [← hw3] at hb3 hr3 hg3
      clear hw3 hb hr hG0 x5 f5
      go_wp2_with (first | (refine wpList_load_blk rfl 32 _ rfl (w.heap.size) rfl 32 (rv ({ p with fu := n }) (D)) _ (hb3) Try.underlying32 rfl info_rdev ?_) | (refine wpList_store_blk rfl 32 _ _ rfl (w.heap.size + 1) (rv ({ p with fu := n }) (D)) rfl rfl 32 _ (hr3) rfl info_rdev (rv_one _ _) ?_))
      refine bodyPost_ret (results_cell_tmp_row rfl _ _ (w.heap.size + 1) 32 (rv { p with fu := n } D) _ _ rfl rfl (hr3.setRow _) Try.underlying32 rfl info_rdev) rfl ?_
      have hgr : Grew w (w3.setRow (w.heap.size + 1) (rv { p with fu := n } D)) := hg3.setRow (by omega) _
      rw [HV.out]
      refine ⟨{ p with fu := n }, rfl, ?_, hgr, fun k hk => .inl hk⟩
      exact (HH.out.grew hgr).set_fuse (some (n, p.svl)) D.failed n (.inr ⟨n, rfl, rfl⟩) (by omega)
    | zero =>
      have HV := Lib.hid (show useD D = ({ finishD D (fun _ => true) (svN p.svl) with failed := true, fuse := none }, true) from by unfold useD; rw [hf])
      rw [hfu] at x5
      have hsv := h.sv.on hG0
      have HE := Lib.hid (rend_any (h.grew hG0) 0 p.A6 p.c6 p.svl false hsv h.svok h.cap6 hsmall)
      rw [prR_zero, svR_false] at HE
      generalize finishD D (fun _ => true) (svN p.svl) = E at *
      have hne : (((0 : Nat) : Int) == 0) = true := rfl
      have hne' : (((0 : Nat) : Int) != 0) = false := rfl
      have x6 := hb.cell 6
      unfold rv at x6
      clear hfu hf h hsv
      go_enter Try.func61, Try.ntmps61
      go_upto_region 1 with fail
      rw [← hw1]
      clear hw1
      go_wp2_with (first | (refine wpList_load_blk rfl 32 _ rfl (w.heap.size) rfl 32 (rv (p) (D)) _ (hb) Try.underlying32 rfl info_rdev ?_) | (refine wpList_store_blk rfl 32 _ _ rfl (w.heap.size + 1) (rv (p) (D)) rfl rfl 32 _ (hr) rfl info_rdev (rv_one _ _) ?_))
      refine HE.out.mono ?_
      rintro e w2 ⟨p2, rfl, hd2⟩
      have hb2 := hb.grew hd2.grew
      have hr2 := hr.grew hd2.grew
      have HD2 := Lib.hid hd2
      have HG2 := Lib.hid (hG0.trans hd2.grew)
      have HG1 := Lib.hid hG0
      clear hb hr hG0 hd2 x5 f5 x6
      go_upto_region 5 with (first | (refine wpList_load_blk rfl 32 _ rfl (w.heap.size) rfl 32 (rv (p2) (E)) _ (hb2) Try.underlying32 rfl info_rdev ?_) | (refine wpList_store_blk rfl 32 _ _ rfl (w.heap.size) (rv (p2) (E)) rfl rfl 32 _ (hb2) rfl info_rdev (rv_one _ _) ?_))
      have hb3 := hb2.setRow (rv p2 E)
      have hr3 := hr2.farRow (g' := w.heap.size) (by omega) (rv p2 E)
      have hg3 := HG2.out.setRow (g := w.heap.size) (Nat.le_refl _) (rv p2 E)
      have ht3 : Turned (fun k => k = w.heap.size) w2 (w2.setRow w.heap.size (rv p2 E)) := (Turned.refl (fun k => k = w.heap.size) w2).setRow (fun _ => rfl) _
      have hxl := hb3.lt
      obtain ⟨w3, hw3⟩ : ∃ w3, w3 = w2.setRow w.heap.size (rv p2 E) := ⟨_, rfl⟩
      rw [← hw3] at hb3 hr3 hg3 ht3 hxl ⊢
      clear hw3 hb2 hr2
      have x4 := hb3.cell 4
      have x5 := hb3.cell 5
      have f4 := hb3.frozen 4
      have f5 := hb3.frozen 5
      unfold rv at x4 x5
      go_upto_region 6 with fail
      have hb4 : Blk ((w3.setCell ⟨w.heap.size, 4, none⟩ (.bool true)).setCell ⟨w.heap.size, 5, none⟩ (.int .i64 (-1))) w.heap.size 32 (rv { p2 with fu := -1 } { E with failed := true, fuse := none }) := ((hb3.set_ 4 (.bool true)).set_ 5 (.int .i64 (-1))).conv rfl
      have hr4 := (hr3.far (p := ⟨w.heap.size, 4, none⟩) (by simp) (.bool true)).far (p := ⟨w.heap.size, 5, none⟩) (by simp) (.int .i64 (-1))
      have ht4 := (ht3.setCell (p := ⟨w.heap.size, 4, none⟩) (fun _ => rfl) (.bool true)).setCell (p := ⟨w.heap.size, 5, none⟩) (fun _ => rfl) (.int .i64 (-1))
      obtain ⟨w4, hw4⟩ : ∃ w4, w4 = (w3.setCell ⟨w.heap.size, 4, none⟩ (.bool true)).setCell ⟨w.heap.size, 5, none⟩ (.int .i64 (-1)) := ⟨_, rfl⟩
      rw [← hw4] at hb4 hr4 ht4 ⊢
      clear hw4 hb3 hr3 hg3 x4 x5 f4 f5 hxl
      go_wp2_with (first | (refine wpList_load_blk rfl 32 _ rfl (w.heap.size) rfl 32 (rv ({ p2 with fu := -1 }) ({ E with failed := true, fuse := none })) _ (hb4) Try.underlying32 rfl info_rdev ?_) | (refine wpList_store_blk rfl 32 _ _ rfl (w.heap.size + 1) (rv ({ p2 with fu := -1 }) ({ E with failed := true, fuse := none })) rfl rfl 32 _ (hr4) rfl info_rdev (rv_one _ _) ?_))
      refine bodyPost_ret (results_cell_tmp_row rfl _ _ (w.heap.size + 1) 32 (rv { p2 with fu := -1 } { E with failed := true, fuse := none }) _ _ rfl rfl (hr4.setRow _) Try.underlying32 rfl info_rdev) rfl ?_
      rw [HV.out]
      refine ⟨{ p2 with fu := -1 }, rfl, ?_⟩
      have ht5 : Turned (fun k => k = w.heap.size ∨ k = w.heap.size + 1) w2 (w4.setRow (w.heap.size + 1) (rv { p2 with fu := -1 } { E with failed := true, fuse := none })) := (ht4.mono (fun _ _ h => .inl h)).setRow (fun _ => .inr rfl) _
      have hg1 : Grew w w1 := HG1.out
      exact (RDid.seal HH.out hg1 HD2.out ht5 (fun k hk => by omega)).refuse none true (-1) (.inl ⟨rfl, rfl⟩) (by omega)
end
end Go.Proofs.Ytklojcgbokmkhaa
