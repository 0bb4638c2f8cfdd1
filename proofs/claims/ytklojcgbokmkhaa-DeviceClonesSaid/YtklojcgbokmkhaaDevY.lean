/- Chapter 3: the reference's Damage. -/
import Derived.Test.YtklojcgbokmkhaaDevX
namespace Go.Proofs.Ytklojcgbokmkhaa
set_option linter.unusedVariables false
set_option linter.unusedSimpArgs false
set_option linter.unusedSectionVars false
open Go.RowKit
open Go.Maps (Keyed)
attribute [local go_sem ↓] Go.wp_at_zero Go.wp_at_succ
theorem xor_cell {W : World} {g j : Nat} {a : ByteArray} {m : UInt8} (hj : j < a.size) (hc : ∀ i (hi : i < a.size), W.cell? ⟨g, i, none⟩ = some (.int .u8 (a[i].toNat : Int))) :
    ∀ i (hi : i < (xorB a j m).size), (W.setCell ⟨g, j, none⟩ (.int .u8 ((a[j].toNat ^^^ m.toNat : Nat) : Int))).cell? ⟨g, i, none⟩ = some (.int .u8 ((xorB a j m)[i].toNat : Int)) := by
  intro i hi
  have hia : i < a.size := by rw [← xorB_size a j m]; exact hi
  by_cases hij : i = j
  · subst hij
    rw [World.cell?_setCell_same' _ _ _ (by rw [hc i hia]; rfl)]
    congr 3
    rw [← UInt8.toNat_xor]
    show (a[i] ^^^ m).toNat = ((xorB a i m).data[i]).toNat
    congr 1
    exact (Array.getElem_modify_self (fun b => b ^^^ m) ..).symm
  · have hne : (W.setCell ⟨g, j, none⟩ (.int .u8 ((a[j].toNat ^^^ m.toNat : Nat) : Int))).cell? ⟨g, i, none⟩ = W.cell? ⟨g, i, none⟩ := by
      refine World.cell?_setCell_other _ _ _ _ ?_
      intro e
      injection e with _ e _
      exact hij e.symm
    rw [hne, hc i hia]
    congr 3
    show (a.data[i]).toNat = ((xorB a j m).data[i]).toNat
    congr 1
    exact (Array.getElem_modify_of_ne (Ne.symm hij) ..).symm
section
variable {w : World} {p : RefP} {D : Dev} (h : RefM w p D)
include h
set_option maxRecDepth 100000 in
set_option maxHeartbeats 4000000 in
theorem rdamage_any (sec i : Int) (m : UInt8) (hs : okI sec) (hi : okI i) : Calls Try.prog 51 #[.agg (rv p D), .int .i64 sec, .int .i64 i, .int .u8 (m.toNat : Int)] w fun er w' => ∃ p', er = .returned (.tuple #[.agg (rv p' (damageD D sec i m).1), .int .i64 (damageD D sec i m).2]) ∧ RDid w w' p D p' (damageD D sec i m).1 := by
  have hb := (Blk.new w 32 (rv p D) rfl).alloc (.cells #[.slice none 0 0, .slice none 0 0, .slice none 0 0, .slice none 0 0, .bool false, .int .i64 0, .slice none 0 0] 32)
  have hr := Blk.new (w.alloc (.cells (rv p D) 32)) 32 #[.slice none 0 0, .slice none 0 0, .slice none 0 0, .slice none 0 0, .bool false, .int .i64 0, .slice none 0 0] (n := w.heap.size + 1) (by simp)
  have hG0 := ((Grew.refl w).alloc (.cells (rv p D) 32)).alloc (.cells #[.slice none 0 0, .slice none 0 0, .slice none 0 0, .slice none 0 0, .bool false, .int .i64 0, .slice none 0 0] 32)
  obtain ⟨w1, hw1⟩ : ∃ w1, w1 = (w.alloc (.cells (rv p D) 32)).alloc (.cells #[.slice none 0 0, .slice none 0 0, .slice none 0 0, .slice none 0 0, .bool false, .int .i64 0, .slice none 0 0] 32) := ⟨_, rfl⟩
  rw [← hw1] at hb hr hG0
  have hz1 : w1.heap.size = w.heap.size + 2 := by rw [hw1]; simp
  rw [show rv p D = #[.slice p.A0 D.st.length p.c0, .slice p.A1 D.st.length p.c1, .slice p.A2 D.pend.length p.c2, .slice p.A3 5 p.c3, .bool D.failed, .int .i64 p.fu, .slice p.A6 p.svl.length p.c6] from rfl] at hw1 ⊢
  have HH := Lib.hid h
  have HG0 := Lib.hid hG0
  have HZ1 := Lib.hid hz1
  have HTH := Lib.hid (rthere_any (h.grew hG0) sec hs)
  have hxl := hb.lt
  unfold okI at hs hi
  clear hz1
  cases ht : thereD D sec with
  | false =>
    have HV := Lib.hid (show damageD D sec i m = (D, 2) from by unfold damageD; rw [if_pos (.inl ht)])
    rw [ht] at HTH
    clear h ht
    go_enter Try.func51, Try.ntmps51
    go_upto_region 1 with fail
    rw [← hw1]
    clear hw1
    go_wp2_with (first | (refine wpList_load_blk rfl 32 _ rfl (w.heap.size) rfl 32 (rv (p) (D)) _ (hb) Try.underlying32 rfl info_rdev ?_) | (refine wpList_store_blk rfl 32 _ _ rfl (w.heap.size + 1) (rv (p) (D)) rfl rfl 32 _ (hr) rfl info_rdev (rv_one _ _) ?_))
    refine HTH.out.mono ?_
    rintro er w2 ⟨rfl, g2⟩
    have hb2 := hb.grew g2
    have hr2 := hr.grew g2
    have hg2 := hG0.trans g2
    clear hb hr hG0 g2
    go_wp2_with (first | (refine wpList_load_blk rfl 32 _ rfl (w.heap.size) rfl 32 (rv (p) (D)) _ (hb2) Try.underlying32 rfl info_rdev ?_) | (refine wpList_store_blk rfl 32 _ _ rfl (w.heap.size + 1) (rv (p) (D)) rfl rfl 32 _ (hr2) rfl info_rdev (rv_one _ _) ?_))
    refine bodyPost_ret (results_cell_tmp_row rfl _ _ (w.heap.size + 1) 32 (rv (p) (D)) _ _ rfl rfl ((hr2).setRow _) Try.underlying32 rfl info_rdev) rfl ?_
    rw [HV.out]
    exact ⟨p, rfl, RDid.same HH.out (hg2.setRow (by omega) _)⟩
  | true =>
    rw [ht] at HTH
    have h0 := of_decide_eq_true ht
    obtain ⟨k, rfl⟩ : ∃ k : Nat, sec = (k : Int) := ⟨sec.toNat, by omega⟩
    have hkl : k < D.st.length := by omega
    have HT := Lib.hid ht
    have HI0 := Lib.hid (RDin.start w1.heap.size h hG0)
    have HST := Lib.hid h.st
    have hlim := h.ok.lim
    have hsz := at_size h.ok hkl
    obtain ⟨b0, off0, hA0, hb0, y0⟩ := str_at h.st hkl
    rw [← Dev.at_get hkl] at y0
    have HOK := Lib.hid h.ok.st
    have hcp0 := h.cap0
    unfold capOk at hcp0
    have HA0 := Lib.hid hA0
    clear h ht hA0
    go_enter Try.func51, Try.ntmps51
    go_upto_region 1 with fail
    rw [← hw1]
    clear hw1
    go_wp2_with (first | (refine wpList_load_blk rfl 32 _ rfl (w.heap.size) rfl 32 (rv (p) (D)) _ (hb) Try.underlying32 rfl info_rdev ?_) | (refine wpList_store_blk rfl 32 _ _ rfl (w.heap.size + 1) (rv (p) (D)) rfl rfl 32 _ (hr) rfl info_rdev (rv_one _ _) ?_))
    refine HTH.out.mono ?_
    rintro er w2 ⟨rfl, g2⟩
    have hb2 := hb.grew g2
    have hr2 := hr.grew g2
    have hg2 := hG0.trans g2
    have HI2 := Lib.hid (RDin.grow HH.out HI0.out g2)
    have hz2 : w1.heap.size ≤ w2.heap.size := g2.size
    have Y0 := Lib.hid ((hg2.cellEq _ _ hb0).trans y0)
    have HZ2 := Lib.hid (show w.heap.size + 2 ≤ w2.heap.size from by have := HZ1.out; omega)
    clear hb hr hG0 g2 y0
    by_cases h1 : i < 0 ∨ 140 ≤ i
    · have HV := Lib.hid (show damageD D k i m = (D, 2) from by unfold damageD; rw [if_pos (h1.elim (fun h => .inr (.inl h)) (fun h => .inr (.inr h)))])
      by_cases h2 : i < 0
      · clear h1
        go_wp2_with (first | (refine wpList_load_blk rfl 32 _ rfl (w.heap.size) rfl 32 (rv (p) (D)) _ (hb2) Try.underlying32 rfl info_rdev ?_) | (refine wpList_store_blk rfl 32 _ _ rfl (w.heap.size + 1) (rv (p) (D)) rfl rfl 32 _ (hr2) rfl info_rdev (rv_one _ _) ?_))
        refine bodyPost_ret (results_cell_tmp_row rfl _ _ (w.heap.size + 1) 32 (rv (p) (D)) _ _ rfl rfl ((hr2).setRow _) Try.underlying32 rfl info_rdev) rfl ?_
        rw [HV.out]
        exact ⟨p, rfl, RDid.same HH.out (hg2.setRow (by omega) _)⟩
      · have h3 : 140 ≤ i := by omega
        clear h1
        go_wp2_with (first | (refine wpList_load_blk rfl 32 _ rfl (w.heap.size) rfl 32 (rv (p) (D)) _ (hb2) Try.underlying32 rfl info_rdev ?_) | (refine wpList_store_blk rfl 32 _ _ rfl (w.heap.size + 1) (rv (p) (D)) rfl rfl 32 _ (hr2) rfl info_rdev (rv_one _ _) ?_))
        refine bodyPost_ret (results_cell_tmp_row rfl _ _ (w.heap.size + 1) 32 (rv (p) (D)) _ _ rfl rfl ((hr2).setRow _) Try.underlying32 rfl info_rdev) rfl ?_
        rw [HV.out]
        exact ⟨p, rfl, RDid.same HH.out (hg2.setRow (by omega) _)⟩
    · obtain ⟨j, rfl⟩ : ∃ j : Nat, i = (j : Int) := ⟨i.toNat, by omega⟩
      have hj140 : j < 140 := by omega
      have hj0 : (0 : Int) ≤ (j : Int) := by omega
      have hji : (j : Int) < 140 := by omega
      by_cases hm : m = 0
      · have HV := Lib.hid (show damageD D k j m = (D, 1) from by unfold damageD; rw [if_neg (by rw [HT.out]; simp; omega), if_pos hm])
        have hmi : (m.toNat : Int) = 0 := by rw [hm]; rfl
        have hmb : ((m.toNat : Int) == 0) = true := by rw [hmi]; rfl
        clear hm h1
        go_wp2_with (first | (refine wpList_load_blk rfl 32 _ rfl (w.heap.size) rfl 32 (rv (p) (D)) _ (hb2) Try.underlying32 rfl info_rdev ?_) | (refine wpList_store_blk rfl 32 _ _ rfl (w.heap.size + 1) (rv (p) (D)) rfl rfl 32 _ (hr2) rfl info_rdev (rv_one _ _) ?_))
        refine bodyPost_ret (results_cell_tmp_row rfl _ _ (w.heap.size + 1) 32 (rv (p) (D)) _ _ rfl rfl ((hr2).setRow _) Try.underlying32 rfl info_rdev) rfl ?_
        rw [HV.out]
        exact ⟨p, rfl, RDid.same HH.out (hg2.setRow (by omega) _)⟩
      · have HV := Lib.hid (show damageD D k j m = ({ D with st := D.st.set k (xorB (D.at k) j m) }, 0) from by unfold damageD; rw [if_neg (by rw [HT.out]; simp; omega), if_neg hm, Int.toNat_natCast, Int.toNat_natCast])
        have hmi : ((m.toNat : Int) == 0) = false := beq_eq_false_iff_ne.2 (fun e => hm (UInt8.toNat_inj.1 (by show m.toNat = 0; omega)))
        obtain ⟨wb, cap, hcv, hgb, hzb, hcb, hfb⟩ := bytes_open w2 (D.at k)
        rw [hsz] at hcv
        generalize D.at k = a at *
        have hja : j < a.size := by omega
        have cj := hcb j hja
        have fj := hfb j hja
        have hxj := xor8 a[j] m
        have HXC := Lib.hid (xor_cell (m := m) hja hcb)
        have HXS := Lib.hid (xorB_size a j m)
        have HGB := Lib.hid hgb
        have HZB := Lib.hid hzb
        have x0 := hb2.cell 0
        unfold rv at x0
        simp only [HA0.out] at x0
        have hxl2 := hb2.lt
        have hb02 : b0 < w2.heap.size := by have := hg2.size; omega
        have y0 := Y0.out
        have HB2 := Lib.hid hb2
        have HR2 := Lib.hid hr2
        have HG2 := Lib.hid hg2
        generalize a[j] = aj at *
        clear h1 hm hgb hcb hfb hzb hb2 hr2 hg2
        go_upto_region 7 with fail
        obtain ⟨wc, hwc⟩ : ∃ wc, wc = wb.setCell ⟨w2.heap.size, j, none⟩ (.int .u8 ((aj.toNat ^^^ m.toNat : Nat) : Int)) := ⟨_, rfl⟩
        have HXC2 := Lib.hid (show ∀ i (hi : i < (xorB a j m).size), wc.cell? ⟨w2.heap.size, i, none⟩ = some (.int .u8 ((xorB a j m)[i].toNat : Int)) from by rw [hwc]; exact HXC.out)
        have hg2c : Grew w2 wc := by rw [hwc]; exact HGB.out.setCell (Nat.le_refl _) _
        have hzc : wc.heap.size = w2.heap.size + 1 := by rw [hwc]; simp [World.setCell]; exact HZB.out
        have HZC := Lib.hid hzc
        rw [← hwc]
        clear hzc hwc HXC cj fj y0 hcv
        have hbc := HB2.out.grew hg2c
        have hrc := HR2.out.grew hg2c
        have HIc := Lib.hid (RDin.grow HH.out HI2.out hg2c)
        have HSTc := Lib.hid ((HST.out.on HG2.out).on hg2c)
        have x0 := (hg2c.cellEq _ _ hxl2).trans x0
        have f0 := hbc.frozen 0
        have hxlc := hbc.lt
        clear hg2c
        go_upto_region 8 with (at_builtin; refine wpList_dup wc (by rfl) _ _ 27 rfl 9 1 16 _ Try.underlying27 info_str rfl (by decide) (D.st.map strC) (by rfl) _ D.st.length _ (by rfl) (strC_len _).symm (strC_row _) (by have := HSTc.out; rw [HA0.out] at this; exact this) (strC_one _) (by omega) (by omega) ?_; intro g3 c3 w3 hown1 hg3 hgl3 hgb3 hn3 hc3; have x0 := (hg3.cellEq _ _ hxlc).trans x0; have f0 := (hg3.frozenEq _ _ hxlc).trans f0; have hx3 : w.heap.size < w3.heap.size := Nat.lt_of_lt_of_le hxlc hg3.size)
        have hzc := HZC.out
        have hge2 : w2.heap.size < g3 := by omega
        have hge3 : w.heap.size + 2 ≤ g3 := by have := HZ2.out; omega
        have hb4 : Blk (w3.setCell ⟨w.heap.size, 0, none⟩ (.slice (some ⟨g3, 0, none⟩) D.st.length c3)) w.heap.size 32 (rv { p with A0 := some ⟨g3, 0, none⟩, c0 := c3 } D) := ((hbc.grew hg3).set_ 0 _).conv rfl
        have hr4 := (hrc.grew hg3).far (p := ⟨w.heap.size, 0, none⟩) (by simp) (.slice (some ⟨g3, 0, none⟩) D.st.length c3)
        have hown4 := hown1.far (p := ⟨w.heap.size, 0, none⟩) (own_ne _ _ (by show g3 ≠ w.heap.size; omega)) (.slice (some ⟨g3, 0, none⟩) D.st.length c3)
        have ht4 : Turned (fun k => k = w.heap.size) w3 (w3.setCell ⟨w.heap.size, 0, none⟩ (.slice (some ⟨g3, 0, none⟩) D.st.length c3)) := (Turned.refl (fun k => k = w.heap.size) w3).setCell (p := ⟨w.heap.size, 0, none⟩) (fun _ => rfl) _
        have hz1 := HZ1.out
        have hz2' := HZ2.out
        have HI4 := Lib.hid (RDin.turn HH.out (RDin.grow HH.out HIc.out hg3) ht4 (fun k hk => by omega))
        have HXC4 := Lib.hid (show ∀ i (hi : i < (xorB a j m).size), (w3.setCell ⟨w.heap.size, 0, none⟩ (.slice (some ⟨g3, 0, none⟩) D.st.length c3)).cell? ⟨w2.heap.size, i, none⟩ = some (.int .u8 ((xorB a j m)[i].toNat : Int)) from fun i hi => (ht4.cellEq w2.heap.size i (by have := hg3.size; omega) (by omega)).trans ((hg3.cellEq _ _ (by omega)).trans (HXC2.out i hi)))
        obtain ⟨w4, hw4⟩ : ∃ w4, w4 = w3.setCell ⟨w.heap.size, 0, none⟩ (.slice (some ⟨g3, 0, none⟩) D.st.length c3) := ⟨_, rfl⟩
        rw [← hw4] at hb4 hr4 hown4 HI4 HXC4 ⊢
        clear hw4 hown1 x0 f0 ht4 hg3 hbc hrc hz1
        have HB4 := Lib.hid hb4
        have HR4 := Lib.hid hr4
        have HO4 := Lib.hid hown4
        have x0 := hb4.cell 0
        unfold rv at x0
        have hxl4 := hb4.lt
        have hcv2 := conv_back w4 w2.heap.size cap (xorB a j m) (by rw [HXS.out, hsz]) HXC4.out
        generalize hu : xorB a j m = u at *
        have HU := Lib.hid hu
        have hrow : (D.st.map strC)[k]? = some (strC D.st[k]) := by rw [List.getElem?_map, List.getElem?_eq_getElem hkl]; rfl
        have c0 := hown4.cell (i := 0) hrow rfl
        rw [Nat.mul_one, Nat.add_zero] at c0
        have d0 := hown4.frozen k
        have hgl4 := (hown4.own_ge (g := g3) rfl).2
        have hs4 := hown4.set_ (j := k) (i := 0) (o := k) hrow (by omega) (by omega) (.string u)
        have he4 : (D.st.map strC).set k ((strC D.st[k]).set 0 (.string u)) = (D.st.set k u).map strC := by rw [List.map_set]; rfl
        rw [he4] at hs4
        have HS4 := Lib.hid hs4
        clear hu hb4 hr4 hown4 hrow hs4 he4
        go_upto_region 9 with fail
        have hb5 := HB4.out.far (p := ⟨g3, k, none⟩) (by simp; omega) (.string u)
        have hr5 := HR4.out.far (p := ⟨g3, k, none⟩) (by simp; omega) (.string u)
        have ht5 : Turned (fun k => k = w.heap.size + 1 ∨ k = g3) w4 (w4.setCell ⟨g3, k, none⟩ (.string u)) := (Turned.refl _ w4).setCell (p := ⟨g3, k, none⟩) (fun _ => .inr rfl) _
        obtain ⟨w5, hw5⟩ : ∃ w5, w5 = w4.setCell ⟨g3, k, none⟩ (.string u) := ⟨_, rfl⟩
        rw [← hw5] at hb5 hr5 HS4 ht5 ⊢
        clear hw5 c0 d0 x0 hcv2
        obtain ⟨S, hSt⟩ : ∃ S, D.st.set k u = S := ⟨_, rfl⟩
        have hSl : D.st.length = S.length := by rw [← hSt, List.length_set]
        have HSL := Lib.hid hSl
        have HSOK := Lib.hid (show ∀ s ∈ S, s.size = 140 from fun s hs => by
          rw [← hSt] at hs
          rcases List.mem_or_eq_of_mem_set hs with hs | rfl
          · exact HOK.out s hs
          · have := HXS.out; omega)
        rw [hSt] at HV HS4
        clear hSt hSl
        go_wp2_with (first | (refine wpList_load_blk rfl 32 _ rfl (w.heap.size) rfl 32 (rv ({ p with A0 := some ⟨g3, 0, none⟩, c0 := c3 }) (D)) _ (hb5) Try.underlying32 rfl info_rdev ?_) | (refine wpList_store_blk rfl 32 _ _ rfl (w.heap.size + 1) (rv ({ p with A0 := some ⟨g3, 0, none⟩, c0 := c3 }) (D)) rfl rfl 32 _ (hr5) rfl info_rdev (rv_one _ _) ?_))
        refine bodyPost_ret (results_cell_tmp_row rfl _ _ (w.heap.size + 1) 32 (rv ({ p with A0 := some ⟨g3, 0, none⟩, c0 := c3 }) (D)) _ _ rfl rfl ((hr5).setRow _) Try.underlying32 rfl info_rdev) rfl ?_
        rw [HV.out]
        refine ⟨{ p with A0 := some ⟨g3, 0, none⟩, c0 := c3 }, by unfold rv; rw [HSL.out]; rfl, ?_⟩
        have ht6 : Turned (fun k => k = w.heap.size + 1) w5 (w5.setRow (w.heap.size + 1) (rv { p with A0 := some ⟨g3, 0, none⟩, c0 := c3 } D)) := (Turned.refl (fun k => k = w.heap.size + 1) w5).setRow (fun _ => rfl) _
        have ht9 := ht5.trans (ht6.mono (T := fun k => k = w.heap.size + 1 ∨ k = g3) (fun _ _ h => .inl h))
        have hz1 := HZ1.out
        have hi4 : RDin w w1.heap.size w4 p D p D := HI4.out
        have hr9 : RefM (w5.setRow (w.heap.size + 1) (rv { p with A0 := some ⟨g3, 0, none⟩, c0 := c3 } D)) p D := hi4.ref.turned ht9 (fun i hi hs => by
          have := HH.out.lt i hi
          omega)
        have hI9 : RDin w w1.heap.size (w5.setRow (w.heap.size + 1) (rv { p with A0 := some ⟨g3, 0, none⟩, c0 := c3 } D)) p D p D := ⟨hr9, hi4.grew.turn ht9 (fun i hi => by omega), hi4.feet⟩
        have hO9 := (HS4.out.kept ht6 (fun g hg => by have := (HS4.out.own_ge hg).1; omega)).listA
        exact (hI9.new_st (some ⟨g3, 0, none⟩) c3 S hO9 HSL.out.symm ⟨by rw [← HSL.out]; exact hn3, hc3⟩ HSOK.out (fun k hk => by have := lies_own hk rfl; omega)).out (by omega)
end
end Go.Proofs.Ytklojcgbokmkhaa
