/- Chapter 3: the reference's DoSync. -/
import Derived.Test.YtklojcgbokmkhaaDevU
namespace Go.Proofs.Ytklojcgbokmkhaa
set_option linter.unusedVariables false
set_option linter.unusedSimpArgs false
set_option linter.unusedSectionVars false
open Go.RowKit
open Go.Maps (Keyed)
attribute [local go_sem ↓] Go.wp_at_zero Go.wp_at_succ
theorem prR_of {s : Int} (h : 1 ≤ s) : prR s = ofSys s := by
  funext r
  unfold prR ofSys
  rw [decide_eq_false (show ¬ s = 0 by omega)]
  rfl
theorem svR_true (l : List Int) : svR true l = fun _ => 140 := rfl
theorem useD_pend {D : Dev} (h : (useD D).2 = false) : (useD D).1.pend = D.pend := by
  unfold useD at h ⊢
  split at h <;> first | rfl | cases h
theorem admitD_fail {D : Dev} {s e : Int} (h : D.failed = true) : admitD D s e = (D, 10) := by unfold admitD; rw [if_pos h]
theorem admitD_use {D E : Dev} {s e : Int} {b : Bool} (h : D.failed = false) (hf : ¬ e < D.fen s) (hU : useD D = (E, b)) : admitD D s e = (E, if b then 10 else 0) := by
  unfold admitD
  rw [if_neg (by rw [h]; decide), if_neg hf, hU]
  cases b <;> rfl
theorem syncD_of {D E : Dev} {s e n : Int} (hp : plainW s e = true) (ha : admitD D s e = (E, n)) (hn : ¬ n = 0) : syncD D s e = (E, n) := by
  unfold syncD
  rw [if_neg (by rw [hp]; decide), ha, if_pos hn]
theorem syncD_ok {D E : Dev} {s e : Int} (hp : plainW s e = true) (ha : admitD D s e = (E, 0)) : syncD D s e = (finishD E (ofSys s) (fun _ => 140), 0) := by
  unfold syncD
  rw [if_neg (by rw [hp]; decide), ha, if_neg (by intro h; exact h rfl)]
theorem writeD_of {D E : Dev} {s e sec n : Int} {data : ByteArray} (hp : plainW s e = true) (hd : data.size = 140) (ht : thereD D sec = true) (ha : admitD D s e = (E, n)) (hn : ¬ n = 0) : writeD D s e sec data = (E, n) := by
  unfold writeD
  rw [if_neg (by rw [hp, hd]; simp), if_neg (by rw [ht]; decide), ha, if_pos hn]
theorem writeD_ok {D E : Dev} {s e sec : Int} {data : ByteArray} (hp : plainW s e = true) (hd : data.size = 140) (ht : thereD D sec = true) (ha : admitD D s e = (E, 0)) : writeD D s e sec data = ({ E with pend := E.pend ++ [⟨s, sec.toNat, data⟩] }, 0) := by
  unfold writeD
  rw [if_neg (by rw [hp, hd]; simp), if_neg (by rw [ht]; decide), ha, if_neg (by intro h; exact h rfl)]
section
variable {w : World} {p : RefP} {D : Dev} (h : RefM w p D)
include h
set_option maxRecDepth 100000 in
set_option maxHeartbeats 4000000 in
theorem rdosync_any (s e : Int) (he : okI e) (hsmall : D.pend.length ≤ 1000000) : Calls Try.prog 46 #[.agg (rv p D), .agg #[.int .i64 s, .int .i64 e]] w fun er w' => ∃ p', er = .returned (.tuple #[.agg (rv p' (syncD D s e).1), .int .i64 (syncD D s e).2]) ∧ RDid w w' p D p' (syncD D s e).1 := by
  have hb := ((Blk.new w 32 (rv p D) rfl).alloc (.cells #[.int .i64 s, .int .i64 e] 40)).alloc (.cells #[.slice none 0 0, .slice none 0 0, .slice none 0 0, .slice none 0 0, .bool false, .int .i64 0, .slice none 0 0] 32)
  have hr := Blk.new ((w.alloc (.cells (rv p D) 32)).alloc (.cells #[.int .i64 s, .int .i64 e] 40)) 32 #[.slice none 0 0, .slice none 0 0, .slice none 0 0, .slice none 0 0, .bool false, .int .i64 0, .slice none 0 0] (n := w.heap.size + 2) (by simp)
  have hG0 := (((Grew.refl w).alloc (.cells (rv p D) 32)).alloc (.cells #[.int .i64 s, .int .i64 e] 40)).alloc (.cells #[.slice none 0 0, .slice none 0 0, .slice none 0 0, .slice none 0 0, .bool false, .int .i64 0, .slice none 0 0] 32)
  have hm1 := (Blk.new (w.alloc (.cells (rv p D) 32)) 40 #[.int .i64 s, .int .i64 e] (n := w.heap.size + 1) (by simp)).alloc (.cells #[.slice none 0 0, .slice none 0 0, .slice none 0 0, .slice none 0 0, .bool false, .int .i64 0, .slice none 0 0] 32)
  obtain ⟨w1, hw1⟩ : ∃ w1, w1 = ((w.alloc (.cells (rv p D) 32)).alloc (.cells #[.int .i64 s, .int .i64 e] 40)).alloc (.cells #[.slice none 0 0, .slice none 0 0, .slice none 0 0, .slice none 0 0, .bool false, .int .i64 0, .slice none 0 0] 32) := ⟨_, rfl⟩
  rw [← hw1] at hb hr hG0 hm1
  have hz1 : w1.heap.size = w.heap.size + 3 := by rw [hw1]; simp
  rw [show rv p D = #[.slice p.A0 D.st.length p.c0, .slice p.A1 D.st.length p.c1, .slice p.A2 D.pend.length p.c2, .slice p.A3 5 p.c3, .bool D.failed, .int .i64 p.fu, .slice p.A6 p.svl.length p.c6] from rfl] at hw1 ⊢
  have HH := Lib.hid h
  have HPL := Lib.hid (rwriter_any w1 s e)
  have m0 := hm1.cell 0
  have m1 := hm1.cell 1
  have hml := hm1.lt
  have HM := Lib.hid hm1
  cases hp : plainW s e with
  | false =>
    have HV := Lib.hid (show syncD D s e = (D, 1) from by unfold syncD; rw [if_pos hp])
    rw [hp] at HPL
    clear hp h hm1
    go_enter Try.func46, Try.ntmps46
    go_upto_region 1 with fail
    rw [← hw1]
    clear hw1
    go_wp2_with fail
    refine HPL.out.mono ?_
    rintro er w2 ⟨rfl, g2⟩
    have hb2 := hb.grew g2
    have hr2 := hr.grew g2
    have hg2 := hG0.trans g2
    clear hb hr hG0 g2 m0 m1
    go_wp2_with (first | (refine wpList_load_blk rfl 32 _ rfl (w.heap.size) rfl 32 (rv (p) (D)) _ (hb2) Try.underlying32 rfl info_rdev ?_) | (refine wpList_store_blk rfl 32 _ _ rfl (w.heap.size + 2) (rv (p) (D)) rfl rfl 32 _ (hr2) rfl info_rdev (rv_one _ _) ?_))
    refine bodyPost_ret (results_cell_tmp_row rfl _ _ (w.heap.size + 2) 32 (rv (p) (D)) _ _ rfl rfl ((hr2).setRow _) Try.underlying32 rfl info_rdev) rfl ?_
    rw [HV.out]
    exact ⟨p, rfl, RDid.same HH.out (hg2.setRow (by omega) _)⟩
  | true =>
    rw [hp] at HPL
    have hsys := of_decide_eq_true hp
    obtain ⟨h1, h4, h5, h6⟩ := hsys
    have HP := Lib.hid hp
    clear hp hm1
    go_enter Try.func46, Try.ntmps46
    go_upto_region 1 with fail
    rw [← hw1]
    clear hw1
    go_wp2_with fail
    refine HPL.out.mono ?_
    rintro er w2 ⟨rfl, g2⟩
    have hb2 := hb.grew g2
    have hr2 := hr.grew g2
    have hg2 := hG0.trans g2
    have hm2 := HM.out.grew g2
    have HB2 := Lib.hid hb2
    have HR2 := Lib.hid hr2
    have HG2 := Lib.hid hg2
    have HM2 := Lib.hid hm2
    have hz2 : w1.heap.size ≤ w2.heap.size := g2.size
    clear hb hr hG0 g2 m0 m1 h HM
    have x4 := hb2.cell 4
    unfold rv at x4
    have hxl := hb2.lt
    cases hf : D.failed with
    | true =>
      have HV := Lib.hid (syncD_of HP.out (admitD_fail hf) (by decide))
      rw [hf] at x4
      clear hf
      go_wp2_with (first | (refine wpList_load_blk rfl 32 _ rfl (w.heap.size) rfl 32 (rv (p) (D)) _ (hb2) Try.underlying32 rfl info_rdev ?_) | (refine wpList_store_blk rfl 32 _ _ rfl (w.heap.size + 2) (rv (p) (D)) rfl rfl 32 _ (hr2) rfl info_rdev (rv_one _ _) ?_))
      refine bodyPost_ret (results_cell_tmp_row rfl _ _ (w.heap.size + 2) 32 (rv (p) (D)) _ _ rfl rfl ((hr2).setRow _) Try.underlying32 rfl info_rdev) rfl ?_
      rw [HV.out]
      exact ⟨p, rfl, RDid.same HH.out (hg2.setRow (by omega) _)⟩
    | false =>
      rw [hf] at x4
      have HF := Lib.hid hf
      have HFE := Lib.hid (rfenced_any (HH.out.grew hg2) s e h1 h4 he)
      have m0 := hm2.cell 0
      have m1 := hm2.cell 1
      have hml2 := hm2.lt
      clear hf hm2
      by_cases hfe : e < D.fen s
      · have HV := Lib.hid (syncD_of HP.out (admitD_fenced HF.out hfe) (by decide))
        rw [decide_eq_true hfe] at HFE
        clear hfe
        go_wp2_with (first | (refine wpList_load_blk rfl 32 _ rfl (w.heap.size) rfl 32 (rv (p) (D)) _ (hb2) Try.underlying32 rfl info_rdev ?_) | (refine wpList_store_blk rfl 32 _ _ rfl (w.heap.size + 2) (rv (p) (D)) rfl rfl 32 _ (hr2) rfl info_rdev (rv_one _ _) ?_))
        refine HFE.out.mono ?_
        rintro er w3 ⟨rfl, g3⟩
        have hb3 := hb2.grew g3
        have hr3 := hr2.grew g3
        have hg3 := hg2.trans g3
        clear hb2 hr2 hg2 g3 m0 m1 x4
        go_wp2_with (first | (refine wpList_load_blk rfl 32 _ rfl (w.heap.size) rfl 32 (rv (p) (D)) _ (hb3) Try.underlying32 rfl info_rdev ?_) | (refine wpList_store_blk rfl 32 _ _ rfl (w.heap.size + 2) (rv (p) (D)) rfl rfl 32 _ (hr3) rfl info_rdev (rv_one _ _) ?_))
        refine bodyPost_ret (results_cell_tmp_row rfl _ _ (w.heap.size + 2) 32 (rv (p) (D)) _ _ rfl rfl ((hr3).setRow _) Try.underlying32 rfl info_rdev) rfl ?_
        rw [HV.out]
        exact ⟨p, rfl, RDid.same HH.out (hg3.setRow (by omega) _)⟩
      · have HNF := Lib.hid hfe
        rw [decide_eq_false hfe] at HFE
        clear hfe
        go_wp2_with (first | (refine wpList_load_blk rfl 32 _ rfl (w.heap.size) rfl 32 (rv (p) (D)) _ (hb2) Try.underlying32 rfl info_rdev ?_) | (refine wpList_store_blk rfl 32 _ _ rfl (w.heap.size + 2) (rv (p) (D)) rfl rfl 32 _ (hr2) rfl info_rdev (rv_one _ _) ?_))
        refine HFE.out.mono ?_
        rintro er w3 ⟨rfl, g3⟩
        have hb3 := hb2.grew g3
        have hr3 := hr2.grew g3
        have hg3 := hg2.trans g3
        have hm3 := HM2.out.grew g3
        have hz3 : w1.heap.size ≤ w3.heap.size := Nat.le_trans hz2 g3.size
        have HG3 := Lib.hid hg3
        clear hb2 hr2 hg2 g3 m0 m1 x4 HB2 HR2 HM2
        go_wp2_with (first | (refine wpList_load_blk rfl 32 _ rfl (w.heap.size) rfl 32 (rv (p) (D)) _ (hb3) Try.underlying32 rfl info_rdev ?_) | (refine wpList_store_blk rfl 32 _ _ rfl (w.heap.size + 2) (rv (p) (D)) rfl rfl 32 _ (hr3) rfl info_rdev (rv_one _ _) ?_))
        refine (ruse_any (HH.out.grew hg3) hsmall).mono ?_
        rintro er w4 ⟨p4, rfl, hd4⟩
        have HI4 := Lib.hid ((RDin.start w1.heap.size HH.out hg3).step hd4 hz3)
        have hb4 := hb3.grew hd4.grew
        have hr4 := hr3.grew hd4.grew
        have hm4 := hm3.grew hd4.grew
        have hz4 : w1.heap.size ≤ w4.heap.size := Nat.le_trans hz3 hd4.grew.size
        have HPE := fun hh => Lib.hid (useD_pend (D := D) hh)
        generalize hU : useD D = U at *
        obtain ⟨D4, b4⟩ := U
        simp only at hd4 hb4 HI4 HPE ⊢
        have HAD := Lib.hid (admitD_use (s := s) (e := e) HF.out (by have := HNF.out; omega) hU)
        clear hU hb3 hr3 hm3 hd4 hg3
        go_upto_region 8 with (first | (refine wpList_load_blk rfl 32 _ rfl (w.heap.size) rfl 32 (rv (p4) (D4)) _ (hb4) Try.underlying32 rfl info_rdev ?_) | (refine wpList_store_blk rfl 32 _ _ rfl (w.heap.size) (rv (p4) (D4)) rfl rfl 32 _ (hb4) rfl info_rdev (rv_one _ _) ?_))
        have hb5 := hb4.setRow (rv p4 D4)
        have hr5 := hr4.farRow (g' := w.heap.size) (by omega) (rv p4 D4)
        have hm5 := hm4.farRow (g' := w.heap.size) (by omega) (rv p4 D4)
        have ht5 : Turned (fun k => k = w.heap.size) w4 (w4.setRow w.heap.size (rv p4 D4)) := (Turned.refl (fun k => k = w.heap.size) w4).setRow (fun _ => rfl) _
        obtain ⟨w5, hw5⟩ : ∃ w5, w5 = w4.setRow w.heap.size (rv p4 D4) := ⟨_, rfl⟩
        rw [← hw5] at hb5 hr5 hm5 ht5 ⊢
        clear hw5 hb4 hr4 hm4
        cases b4 with
        | true =>
          have HV := Lib.hid (syncD_of (n := 10) HP.out HAD.out (by decide))
          go_wp2_with (first | (refine wpList_load_blk rfl 32 _ rfl (w.heap.size) rfl 32 (rv (p4) (D4)) _ (hb5) Try.underlying32 rfl info_rdev ?_) | (refine wpList_store_blk rfl 32 _ _ rfl (w.heap.size + 2) (rv (p4) (D4)) rfl rfl 32 _ (hr5) rfl info_rdev (rv_one _ _) ?_))
          refine bodyPost_ret (results_cell_tmp_row rfl _ _ (w.heap.size + 2) 32 (rv (p4) (D4)) _ _ rfl rfl ((hr5).setRow _) Try.underlying32 rfl info_rdev) rfl ?_
          rw [HV.out]
          refine ⟨p4, rfl, ?_⟩
          have ht6 := (ht5.mono (T := fun k => k = w.heap.size ∨ k = w.heap.size + 2) (fun _ _ h => .inl h)).setRow (g := w.heap.size + 2) (fun _ => .inr rfl) (rv p4 D4)
          exact (RDin.turn HH.out HI4.out ht6 (fun k hk => by omega)).out (by omega)
        | false =>
          have HV := Lib.hid (syncD_ok HP.out HAD.out)
          have hd5 := RDin.turn HH.out HI4.out ht5 (fun k hk => by omega)
          have HE := Lib.hid (rend_any hd5.ref s none 0 [] true (ListAt.none _) (fun n hn => by cases hn) ⟨Nat.le_refl _, by decide⟩ (by rw [(HPE rfl).out]; exact hsmall))
          rw [prR_of h1, svR_true] at HE
          have HD5 := Lib.hid hd5
          have m0 := hm5.cell 0
          have hml5 := hm5.lt
          clear hd5
          go_wp2_with (first | (refine wpList_load_blk rfl 32 _ rfl (w.heap.size) rfl 32 (rv (p4) (D4)) _ (hb5) Try.underlying32 rfl info_rdev ?_) | (refine wpList_store_blk rfl 32 _ _ rfl (w.heap.size + 2) (rv (p4) (D4)) rfl rfl 32 _ (hr5) rfl info_rdev (rv_one _ _) ?_))
          refine HE.out.mono ?_
          rintro er w6 ⟨p6, rfl, hd6⟩
          have hr6 := hr5.grew hd6.grew
          have HD6 := Lib.hid hd6
          have hz6 := hd6.grew.size
          have hz5 := ht5.size
          clear hd6 hb5 hr5 hm5 m0
          generalize finishD D4 (ofSys s) (fun _ => 140) = E6 at *
          go_wp2_with (first | (refine wpList_load_blk rfl 32 _ rfl (w.heap.size) rfl 32 (rv (p6) (E6)) _ (hr6) Try.underlying32 rfl info_rdev ?_) | (refine wpList_store_blk rfl 32 _ _ rfl (w.heap.size + 2) (rv (p6) (E6)) rfl rfl 32 _ (hr6) rfl info_rdev (rv_one _ _) ?_))
          refine bodyPost_ret (results_cell_tmp_row rfl _ _ (w.heap.size + 2) 32 (rv (p6) (E6)) _ _ rfl rfl ((hr6).setRow _) Try.underlying32 rfl info_rdev) rfl ?_
          rw [HV.out]
          refine ⟨p6, rfl, ?_⟩
          have ht7 : Turned (fun k => k = w.heap.size + 2) w6 (w6.setRow (w.heap.size + 2) (rv p6 E6)) := (Turned.refl (fun k => k = w.heap.size + 2) w6).setRow (fun _ => rfl) _
          exact (RDin.turn HH.out (HD5.out.step HD6.out (by omega)) ht7 (fun k hk => by omega)).out (by omega)
end
end Go.Proofs.Ytklojcgbokmkhaa
