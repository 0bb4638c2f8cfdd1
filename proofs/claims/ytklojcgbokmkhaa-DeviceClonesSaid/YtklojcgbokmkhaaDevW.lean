/- Chapter 3: the reference's DoWrite. -/
import Derived.Test.YtklojcgbokmkhaaDevV
namespace Go.Proofs.Ytklojcgbokmkhaa
set_option linter.unusedVariables false
set_option linter.unusedSimpArgs false
set_option linter.unusedSectionVars false
open Go.RowKit
open Go.Maps (Keyed)
attribute [local go_sem ↓] Go.wp_at_zero Go.wp_at_succ
theorem RDin.new_pend {w W : World} {n : Nat} {p q : RefP} {D E : Dev} (hi : RDin w n W p D q E) (A : Option Addr) (c : Nat) (P : List Wr) (hl : ListAt W W.heap.size 3 A (P.map wrC)) (hc : capOk P.length c) (hok : ∀ r ∈ P, r.sec < E.st.length ∧ r.data.size = 140 ∧ (1 ≤ r.sys ∧ r.sys ≤ 4)) (hA : ∀ k, Lies A P.length k → n ≤ k) :
    RDin w n W p D { q with A2 := A, c2 := c } { E with pend := P } :=
  ⟨⟨hi.ref.st, hi.ref.old, hi.ref.olen, hi.ref.each, hl, hi.ref.fen, hi.ref.sv, hi.ref.fuse, hi.ref.fub, hi.ref.svok, hi.ref.cap0, hi.ref.cap1, hc, hi.ref.cap3, hi.ref.cap6, ⟨hi.ref.ok.len, hi.ref.ok.pos, hi.ref.ok.lim, hi.ref.ok.st, hi.ref.ok.old, hok, hi.ref.ok.fen⟩⟩, hi.grew, fun k hk => by
    rcases hk with hk | hk | hk | hk
    · exact hi.feet k (.inl hk)
    · exact hi.feet k (.inr (.inl hk))
    · exact .inr (hA k hk)
    · exact hi.feet k (.inr (.inr (.inr hk)))⟩
theorem wrC_row (l : List Wr) : ∀ r ∈ l.map wrC, r.length = 3 := by intro r h; obtain ⟨x, _, rfl⟩ := List.mem_map.1 h; rfl
theorem wrC_one (l : List Wr) : ∀ r ∈ l.map wrC, r.all (·.oneCell') = true := by intro r h; obtain ⟨x, _, rfl⟩ := List.mem_map.1 h; rfl
theorem useD_st {D : Dev} (h : (useD D).2 = false) : (useD D).1.st = D.st := by
  unfold useD at h ⊢
  split at h <;> first | rfl | cases h
section
variable {w : World} {p : RefP} {D : Dev} (h : RefM w p D)
include h
set_option maxRecDepth 100000 in
set_option maxHeartbeats 4000000 in
theorem rdowrite_any (s e sec : Int) (data : ByteArray) (he : okI e) (hsec : okI sec) (hdsz : data.size ≤ 1000000) (hsmall : D.pend.length ≤ 999999) : Calls Try.prog 45 #[.agg (rv p D), .agg #[.int .i64 s, .int .i64 e], .int .i64 sec, .string data] w fun er w' => ∃ p', er = .returned (.tuple #[.agg (rv p' (writeD D s e sec data).1), .int .i64 (writeD D s e sec data).2]) ∧ RDid w w' p D p' (writeD D s e sec data).1 := by
  have hb := ((Blk.new w 32 (rv p D) rfl).alloc (.cells #[.int .i64 s, .int .i64 e] 40)).alloc (.cells #[.slice none 0 0, .slice none 0 0, .slice none 0 0, .slice none 0 0, .bool false, .int .i64 0, .slice none 0 0] 32)
  have hr := Blk.new ((w.alloc (.cells (rv p D) 32)).alloc (.cells #[.int .i64 s, .int .i64 e] 40)) 32 #[.slice none 0 0, .slice none 0 0, .slice none 0 0, .slice none 0 0, .bool false, .int .i64 0, .slice none 0 0] (n := w.heap.size + 2) (by simp)
  have hG0 := (((Grew.refl w).alloc (.cells (rv p D) 32)).alloc (.cells #[.int .i64 s, .int .i64 e] 40)).alloc (.cells #[.slice none 0 0, .slice none 0 0, .slice none 0 0, .slice none 0 0, .bool false, .int .i64 0, .slice none 0 0] 32)
  have hm1 := (Blk.new (w.alloc (.cells (rv p D) 32)) 40 #[.int .i64 s, .int .i64 e] (n := w.heap.size + 1) (by simp)).alloc (.cells #[.slice none 0 0, .slice none 0 0, .slice none 0 0, .slice none 0 0, .bool false, .int .i64 0, .slice none 0 0] 32)
  obtain ⟨w1, hw1⟩ : ∃ w1, w1 = ((w.alloc (.cells (rv p D) 32)).alloc (.cells #[.int .i64 s, .int .i64 e] 40)).alloc (.cells #[.slice none 0 0, .slice none 0 0, .slice none 0 0, .slice none 0 0, .bool false, .int .i64 0, .slice none 0 0] 32) := ⟨_, rfl⟩
  rw [← hw1] at hb hr hG0 hm1
  have hz1 : w1.heap.size = w.heap.size + 3 := by rw [hw1]; simp
  rw [show rv p D = #[.slice p.A0 D.st.length p.c0, .slice p.A1 D.st.length p.c1, .slice p.A2 D.pend.length p.c2, .slice p.A3 5 p.c3, .bool D.failed, .int .i64 p.fu, .slice p.A6 p.svl.length p.c6] from rfl] at hw1 ⊢
  have HH := Lib.hid h
  have HPL := Lib.hid (rwriter_any w1 s e)
  have m0 := hm1.cell 0
  have m1 := hm1.cell 1
  have hml := hm1.lt
  have HM := Lib.hid hm1
  cases hp : plainW s e with
  | false =>
    have HV := Lib.hid (show writeD D s e sec data = (D, 1) from by unfold writeD; rw [if_pos (.inl hp)])
    rw [hp] at HPL
    clear hp h hm1
    go_enter Try.func45, Try.ntmps45
    go_upto_region 1 with fail
    rw [← hw1]
    clear hw1
    go_wp2_with fail
    refine HPL.out.mono ?_
    rintro er w2 ⟨rfl, g2⟩
    have hb2 := hb.grew g2
    have hr2 := hr.grew g2
    have hg2 := hG0.trans g2
    clear hb hr hG0 g2 m0 m1
    go_wp2_with (first | (refine wpList_load_blk rfl 32 _ rfl (w.heap.size) rfl 32 (rv (p) (D)) _ (hb2) Try.underlying32 rfl info_rdev ?_) | (refine wpList_store_blk rfl 32 _ _ rfl (w.heap.size + 2) (rv (p) (D)) rfl rfl 32 _ (hr2) rfl info_rdev (rv_one _ _) ?_))
    refine bodyPost_ret (results_cell_tmp_row rfl _ _ (w.heap.size + 2) 32 (rv (p) (D)) _ _ rfl rfl ((hr2).setRow _) Try.underlying32 rfl info_rdev) rfl ?_
    rw [HV.out]
    exact ⟨p, rfl, RDid.same HH.out (hg2.setRow (by omega) _)⟩
  | true =>
    rw [hp] at HPL
    have hsys := of_decide_eq_true hp
    obtain ⟨h1, h4, h5, h6⟩ := hsys
    have HP := Lib.hid hp
    clear hp hm1
    go_enter Try.func45, Try.ntmps45
    go_upto_region 1 with fail
    rw [← hw1]
    clear hw1
    go_wp2_with fail
    refine HPL.out.mono ?_
    rintro er w2 ⟨rfl, g2⟩
    have hb2 := hb.grew g2
    have hr2 := hr.grew g2
    have hg2 := hG0.trans g2
    have hm2 := HM.out.grew g2
    have HB2 := Lib.hid hb2
    have HR2 := Lib.hid hr2
    have HG2 := Lib.hid hg2
    have HM2 := Lib.hid hm2
    have hz2 : w1.heap.size ≤ w2.heap.size := g2.size
    clear hb hr hG0 g2 m0 m1 h HM
    by_cases hd : data.size = 140
    · have hdi : (data.size : Int) = 140 := by omega
      have HDS := Lib.hid hd
      have HTH := Lib.hid (rthere_any (HH.out.grew hg2) sec hsec)
      clear hd
      cases ht : thereD D sec with
      | false =>
        have HV := Lib.hid (show writeD D s e sec data = (D, 2) from by unfold writeD; rw [if_neg (by rw [HP.out, HDS.out]; simp), if_pos ht])
        rw [ht] at HTH
        clear ht
        go_wp2_with (first | (refine wpList_load_blk rfl 32 _ rfl (w.heap.size) rfl 32 (rv (p) (D)) _ (hb2) Try.underlying32 rfl info_rdev ?_) | (refine wpList_store_blk rfl 32 _ _ rfl (w.heap.size + 2) (rv (p) (D)) rfl rfl 32 _ (hr2) rfl info_rdev (rv_one _ _) ?_))
        refine HTH.out.mono ?_
        rintro er w3 ⟨rfl, g3⟩
        have hb3 := hb2.grew g3
        have hr3 := hr2.grew g3
        have hg3 := hg2.trans g3
        clear hb2 hr2 hg2 g3
        go_wp2_with (first | (refine wpList_load_blk rfl 32 _ rfl (w.heap.size) rfl 32 (rv (p) (D)) _ (hb3) Try.underlying32 rfl info_rdev ?_) | (refine wpList_store_blk rfl 32 _ _ rfl (w.heap.size + 2) (rv (p) (D)) rfl rfl 32 _ (hr3) rfl info_rdev (rv_one _ _) ?_))
        refine bodyPost_ret (results_cell_tmp_row rfl _ _ (w.heap.size + 2) 32 (rv (p) (D)) _ _ rfl rfl ((hr3).setRow _) Try.underlying32 rfl info_rdev) rfl ?_
        rw [HV.out]
        exact ⟨p, rfl, RDid.same HH.out (hg3.setRow (by omega) _)⟩
      | true =>
        have HT := Lib.hid ht
        rw [ht] at HTH
        clear ht
        go_wp2_with (first | (refine wpList_load_blk rfl 32 _ rfl (w.heap.size) rfl 32 (rv (p) (D)) _ (hb2) Try.underlying32 rfl info_rdev ?_) | (refine wpList_store_blk rfl 32 _ _ rfl (w.heap.size + 2) (rv (p) (D)) rfl rfl 32 _ (hr2) rfl info_rdev (rv_one _ _) ?_))
        refine HTH.out.mono ?_
        rintro er w3 ⟨rfl, g3⟩
        have hb3 := hb2.grew g3
        have hr3 := hr2.grew g3
        have hg3 := hg2.trans g3
        have hm3 := hm2.grew g3
        have HB3 := Lib.hid hb3
        have HR3 := Lib.hid hr3
        have HG3 := Lib.hid hg3
        have HM3 := Lib.hid hm3
        have hz3 : w1.heap.size ≤ w3.heap.size := Nat.le_trans hz2 g3.size
        clear hb2 hr2 hg2 g3 hm2 HB2 HR2 HG2 HM2
        have x4 := hb3.cell 4
        unfold rv at x4
        have hxl := hb3.lt
        cases hf : D.failed with
        | true =>
          have HV := Lib.hid (writeD_of HP.out HDS.out HT.out (admitD_fail hf) (by decide))
          rw [hf] at x4
          clear hf
          go_wp2_with (first | (refine wpList_load_blk rfl 32 _ rfl (w.heap.size) rfl 32 (rv (p) (D)) _ (hb3) Try.underlying32 rfl info_rdev ?_) | (refine wpList_store_blk rfl 32 _ _ rfl (w.heap.size + 2) (rv (p) (D)) rfl rfl 32 _ (hr3) rfl info_rdev (rv_one _ _) ?_))
          refine bodyPost_ret (results_cell_tmp_row rfl _ _ (w.heap.size + 2) 32 (rv (p) (D)) _ _ rfl rfl ((hr3).setRow _) Try.underlying32 rfl info_rdev) rfl ?_
          rw [HV.out]
          exact ⟨p, rfl, RDid.same HH.out (hg3.setRow (by omega) _)⟩
        | false =>
          rw [hf] at x4
          have HF := Lib.hid hf
          have HFE := Lib.hid (rfenced_any (HH.out.grew hg3) s e h1 h4 he)
          have m0 := hm3.cell 0
          have m1 := hm3.cell 1
          have hml2 := hm3.lt
          clear hf hm3
          by_cases hfe : e < D.fen s
          · have HV := Lib.hid (writeD_of HP.out HDS.out HT.out (admitD_fenced HF.out hfe) (by decide))
            rw [decide_eq_true hfe] at HFE
            clear hfe
            go_wp2_with (first | (refine wpList_load_blk rfl 32 _ rfl (w.heap.size) rfl 32 (rv (p) (D)) _ (hb3) Try.underlying32 rfl info_rdev ?_) | (refine wpList_store_blk rfl 32 _ _ rfl (w.heap.size + 2) (rv (p) (D)) rfl rfl 32 _ (hr3) rfl info_rdev (rv_one _ _) ?_))
            refine HFE.out.mono ?_
            rintro er w4 ⟨rfl, g4⟩
            have hb4 := hb3.grew g4
            have hr4 := hr3.grew g4
            have hg4 := hg3.trans g4
            clear hb3 hr3 hg3 g4 m0 m1 x4
            go_wp2_with (first | (refine wpList_load_blk rfl 32 _ rfl (w.heap.size) rfl 32 (rv (p) (D)) _ (hb4) Try.underlying32 rfl info_rdev ?_) | (refine wpList_store_blk rfl 32 _ _ rfl (w.heap.size + 2) (rv (p) (D)) rfl rfl 32 _ (hr4) rfl info_rdev (rv_one _ _) ?_))
            refine bodyPost_ret (results_cell_tmp_row rfl _ _ (w.heap.size + 2) 32 (rv (p) (D)) _ _ rfl rfl ((hr4).setRow _) Try.underlying32 rfl info_rdev) rfl ?_
            rw [HV.out]
            exact ⟨p, rfl, RDid.same HH.out (hg4.setRow (by omega) _)⟩
          · have HNF := Lib.hid hfe
            rw [decide_eq_false hfe] at HFE
            clear hfe
            go_wp2_with (first | (refine wpList_load_blk rfl 32 _ rfl (w.heap.size) rfl 32 (rv (p) (D)) _ (hb3) Try.underlying32 rfl info_rdev ?_) | (refine wpList_store_blk rfl 32 _ _ rfl (w.heap.size + 2) (rv (p) (D)) rfl rfl 32 _ (hr3) rfl info_rdev (rv_one _ _) ?_))
            refine HFE.out.mono ?_
            rintro er w4 ⟨rfl, g4⟩
            have hb4 := hb3.grew g4
            have hr4 := hr3.grew g4
            have hg4 := hg3.trans g4
            have hm4 := HM3.out.grew g4
            have hz4 : w1.heap.size ≤ w4.heap.size := Nat.le_trans hz3 g4.size
            clear hb3 hr3 hg3 g4 m0 m1 x4 HB3 HR3 HM3
            go_wp2_with (first | (refine wpList_load_blk rfl 32 _ rfl (w.heap.size) rfl 32 (rv (p) (D)) _ (hb4) Try.underlying32 rfl info_rdev ?_) | (refine wpList_store_blk rfl 32 _ _ rfl (w.heap.size + 2) (rv (p) (D)) rfl rfl 32 _ (hr4) rfl info_rdev (rv_one _ _) ?_))
            refine (ruse_any (HH.out.grew hg4) (by omega)).mono ?_
            rintro er w5 ⟨p5, rfl, hd5⟩
            have HI5 := Lib.hid ((RDin.start w1.heap.size HH.out hg4).step hd5 hz4)
            have hb5 := hb4.grew hd5.grew
            have hr5 := hr4.grew hd5.grew
            have hm5 := hm4.grew hd5.grew
            have hz5 : w1.heap.size ≤ w5.heap.size := Nat.le_trans hz4 hd5.grew.size
            have HPE := fun hh => Lib.hid (useD_pend (D := D) hh)
            have HSE := fun hh => Lib.hid (useD_st (D := D) hh)
            generalize hU : useD D = U at *
            obtain ⟨D5, b5⟩ := U
            simp only at hd5 hb5 HI5 HPE HSE ⊢
            have HAD := Lib.hid (admitD_use (s := s) (e := e) HF.out (by have := HNF.out; omega) hU)
            clear hU hb4 hr4 hm4 hd5 hg4
            go_upto_region 10 with (first | (refine wpList_load_blk rfl 32 _ rfl (w.heap.size) rfl 32 (rv (p5) (D5)) _ (hb5) Try.underlying32 rfl info_rdev ?_) | (refine wpList_store_blk rfl 32 _ _ rfl (w.heap.size) (rv (p5) (D5)) rfl rfl 32 _ (hb5) rfl info_rdev (rv_one _ _) ?_))
            have hb6 := hb5.setRow (rv p5 D5)
            have hr6 := hr5.farRow (g' := w.heap.size) (by omega) (rv p5 D5)
            have hm6 := hm5.farRow (g' := w.heap.size) (by omega) (rv p5 D5)
            have ht6 : Turned (fun k => k = w.heap.size) w5 (w5.setRow w.heap.size (rv p5 D5)) := (Turned.refl (fun k => k = w.heap.size) w5).setRow (fun _ => rfl) _
            obtain ⟨w6, hw6⟩ : ∃ w6, w6 = w5.setRow w.heap.size (rv p5 D5) := ⟨_, rfl⟩
            rw [← hw6] at hb6 hr6 hm6 ht6 ⊢
            clear hw6 hb5 hr5 hm5
            have HI6 := Lib.hid (RDin.turn HH.out HI5.out ht6 (fun k hk => by omega))
            have hz6 := ht6.size
            cases b5 with
            | true =>
              have HV := Lib.hid (writeD_of (n := 10) HP.out HDS.out HT.out HAD.out (by decide))
              go_wp2_with (first | (refine wpList_load_blk rfl 32 _ rfl (w.heap.size) rfl 32 (rv (p5) (D5)) _ (hb6) Try.underlying32 rfl info_rdev ?_) | (refine wpList_store_blk rfl 32 _ _ rfl (w.heap.size + 2) (rv (p5) (D5)) rfl rfl 32 _ (hr6) rfl info_rdev (rv_one _ _) ?_))
              refine bodyPost_ret (results_cell_tmp_row rfl _ _ (w.heap.size + 2) 32 (rv (p5) (D5)) _ _ rfl rfl ((hr6).setRow _) Try.underlying32 rfl info_rdev) rfl ?_
              rw [HV.out]
              refine ⟨p5, rfl, ?_⟩
              have ht7 : Turned (fun k => k = w.heap.size + 2) w6 (w6.setRow (w.heap.size + 2) (rv p5 D5)) := (Turned.refl (fun k => k = w.heap.size + 2) w6).setRow (fun _ => rfl) _
              exact (RDin.turn HH.out HI6.out ht7 (fun k hk => by omega)).out (by omega)
            | false =>
              have HV := Lib.hid (writeD_ok HP.out HDS.out HT.out HAD.out)
              have hpl5 : D5.pend.length ≤ 999999 := by rw [(HPE rfl).out]; exact hsmall
              have hst5 := (HSE rfl).out
              have HST5 := Lib.hid hst5
              clear hst5
              have htd := of_decide_eq_true HT.out
              go_wp2_with fail
              have hcp2 := HI6.out.ref.cap2
              unfold capOk at hcp2
              have HPL6 := Lib.hid HI6.out.ref.pend
              have hbb := hb6.drew
              have hmb := hm6.drew
              have hrb := hr6.drew
              have x2 := hb6.cell 2
              unfold rv at x2
              obtain ⟨wb, hwb⟩ : ∃ wb, wb = w6.drew := ⟨_, rfl⟩
              have hgb0 : Grew w6 wb := by rw [hwb]; exact (Grew.refl w6).drew
              refine wp_region_R [10, 12] (fun w' : World => w'.cell? ⟨w.heap.size, 2, none⟩ = some (.slice p5.A2 D5.pend.length p5.c2) ∧ w'.cell? ⟨w.heap.size + 1, 0, none⟩ = some (.int .i64 s)) (by kernel_rfl) ?_
              rw [← hwb] at hbb hmb hrb ⊢
              have hS := (show (fun w' : World => w'.cell? ⟨w.heap.size, 2, none⟩ = some (.slice p5.A2 D5.pend.length p5.c2) ∧ w'.cell? ⟨w.heap.size + 1, 0, none⟩ = some (.int .i64 s)) wb from ⟨(hgb0.cellEq _ _ hb6.lt).trans x2, hmb.cell 0⟩)
              have sk : ∀ W, Grew wb W → W.cell? ⟨w.heap.size, 2, none⟩ = some (.slice p5.A2 D5.pend.length p5.c2) ∧ W.cell? ⟨w.heap.size + 1, 0, none⟩ = some (.int .i64 s) := fun W hW => ⟨(hW.cellEq _ _ hbb.lt).trans hS.1, (hW.cellEq _ _ hmb.lt).trans hS.2⟩
              have HLb := Lib.hid (HPL6.out.on hgb0)
              have hzb : w6.heap.size ≤ wb.heap.size := hgb0.size
              clear hwb x2 hm6
              refine wpAnyR_takeQ (i := 1) (v := ?_) (some 44) rfl rfl (by kernel_rfl) (by kernel_rfl) (by kernel_rfl) (by kernel_rfl) (fun _ _ _ h => h) (Or.inl ⟨by rfl, ?_⟩) ?_
              rotate_left
              focus (intro wS hSw; (try dsimp only at hSw); go_simp; (try with_reducible rfl); (try (first | (rw [if_pos (by omega)]; (try go_simp); (try with_reducible rfl)) | (rw [if_neg (by omega)]; (try go_simp); (try with_reducible rfl)))))
              try simp only [Act.put, List.setIfInBounds_toArray, List.set_cons_zero, List.set_cons_succ]
              refine wpAnyR_take (i := 2) (v := ?_) [3, 10, 11, 12] (some 45) rfl rfl (by kernel_rfl) (by kernel_rfl) (by kernel_rfl) (by kernel_rfl) (by kernel_rfl) (by kernel_rfl) (by kernel_rfl) (fun _ _ _ h => h) (Or.inl ⟨by rfl, ?_⟩) hS ?_
              rotate_left
              focus (intro wS hSw; (try dsimp only at hSw); go_simp; (try with_reducible rfl); (try (first | (rw [if_pos (by omega)]; (try go_simp); (try with_reducible rfl)) | (rw [if_neg (by omega)]; (try go_simp); (try with_reducible rfl)))))
              try simp only [Act.put, List.setIfInBounds_toArray, List.set_cons_zero, List.set_cons_succ]
              refine wpAnyR_takeQ (i := 4) (v := ?_) (some 47) rfl rfl (by kernel_rfl) (by kernel_rfl) (by kernel_rfl) (by kernel_rfl) (fun _ _ _ h => h) (Or.inl ⟨by rfl, ?_⟩) ?_
              rotate_left
              focus (intro wS hSw; (try dsimp only at hSw); go_simp; (try with_reducible rfl); (try (first | (rw [if_pos (by omega)]; (try go_simp); (try with_reducible rfl)) | (rw [if_neg (by omega)]; (try go_simp); (try with_reducible rfl)))))
              try simp only [Act.put, List.setIfInBounds_toArray, List.set_cons_zero, List.set_cons_succ]
              refine wpAnyR_take (i := 5) (v := ?_) [8, 9, 10, 11, 12] (some 48) rfl rfl (by kernel_rfl) (by kernel_rfl) (by kernel_rfl) (by kernel_rfl) (by kernel_rfl) (by kernel_rfl) (by kernel_rfl) (fun _ _ _ h => h) (Or.inl ⟨by rfl, ?_⟩) hS ?_
              rotate_left
              focus (intro wS hSw; (try dsimp only at hSw); go_simp; (try with_reducible rfl); (try (first | (rw [if_pos (by omega)]; (try go_simp); (try with_reducible rfl)) | (rw [if_neg (by omega)]; (try go_simp); (try with_reducible rfl)))))
              try simp only [Act.put, List.setIfInBounds_toArray, List.set_cons_zero, List.set_cons_succ]
              refine wpAnyR_takeQ (i := 6) (v := ?_) (some 49) rfl rfl (by kernel_rfl) (by kernel_rfl) (by kernel_rfl) (by kernel_rfl) (fun _ _ _ h => h) (Or.inl ⟨by rfl, ?_⟩) ?_
              rotate_left
              focus (intro wS hSw; (try dsimp only at hSw); go_simp; (try with_reducible rfl); (try (first | (rw [if_pos (by omega)]; (try go_simp); (try with_reducible rfl)) | (rw [if_neg (by omega)]; (try go_simp); (try with_reducible rfl)))))
              try simp only [Act.put, List.setIfInBounds_toArray, List.set_cons_zero, List.set_cons_succ]
              refine wpAnyR_takeQ (i := 7) (v := ?_) (some 50) rfl rfl (by kernel_rfl) (by kernel_rfl) (by kernel_rfl) (by kernel_rfl) (fun _ _ _ h => h) (Or.inl ⟨by rfl, ?_⟩) ?_
              rotate_left
              focus (intro wS hSw; (try dsimp only at hSw); go_simp; (try with_reducible rfl); (try (first | (rw [if_pos (by omega)]; (try go_simp); (try with_reducible rfl)) | (rw [if_neg (by omega)]; (try go_simp); (try with_reducible rfl)))))
              try simp only [Act.put, List.setIfInBounds_toArray, List.set_cons_zero, List.set_cons_succ]
              refine wpAnyR_takeQ (i := 8) (v := ?_) (some 51) rfl rfl (by kernel_rfl) (by kernel_rfl) (by kernel_rfl) (by kernel_rfl) (fun _ _ _ h => h) (Or.inl ⟨by rfl, ?_⟩) ?_
              rotate_left
              focus (intro wS hSw; (try dsimp only at hSw); go_simp; (try with_reducible rfl); (try (first | (rw [if_pos (by omega)]; (try go_simp); (try with_reducible rfl)) | (rw [if_neg (by omega)]; (try go_simp); (try with_reducible rfl)))))
              try simp only [Act.put, List.setIfInBounds_toArray, List.set_cons_zero, List.set_cons_succ]
              refine wpAnyR_n2 (i := 0) (j := 9) rfl rfl (by kernel_rfl) ?f1a ?f1b
              case' f1a =>
                intro K' hK
                rw [if_pos (by rfl)]
                simp only [List.getElem_toArray, List.getElem_cons_succ, List.getElem_cons_zero]
                go_wp2_with fail
                have gb := (Grew.refl wb).alloc (.cells #[] 97)
                refine hK.out _ _ (.inr (fun _ => sk _ gb)) ?_
                clear hK
                refine wpAnyR_n2 (i := 3) (j := 9) rfl rfl (by kernel_rfl) ?f2a ?f2b
                case' f2a =>
                  intro K' hK
                  rw [if_pos (by rfl)]
                  simp only [List.getElem_toArray, List.getElem_cons_succ, List.getElem_cons_zero]
                  refine wp_pushAll (.tmp 43) (.tmp 45) 29 rfl wb.heap.size 97 3 32 _ Try.underlying29 info_rwr rfl (by decide) (.slice (some ⟨wb.heap.size, 0, none⟩) 0 0) [] (D5.pend.map wrC) rfl (OwnL.empty wb _ _ _ (Nat.le_refl _) rfl) _ D5.pend.length _ rfl (by rw [wrC_len]) (wrC_row _) (HLb.out.on gb) (wrC_one _) (by simp; omega) (by simp; omega) gb.size ?_
                  intro vA wA hownA hgrA hatA
                  have gA : Grew wb wA := Grew.own gb hgrA (own_one _ _ _) (Nat.le_refl _)
                  refine hK.out _ _ (.inr (fun _ => sk _ gA)) ?_
                  clear hK hgrA hatA hS
                  have hS := (show (fun w' : World => w'.cell? ⟨w.heap.size, 2, none⟩ = some (.slice p5.A2 D5.pend.length p5.c2) ∧ w'.cell? ⟨w.heap.size + 1, 0, none⟩ = some (.int .i64 s)) wA from sk _ gA)
                  refine wpAnyR_n1 (i := 9) rfl (by kernel_rfl) ?_
                  intro K' hK
                  rw [if_pos (by rfl)]
                  simp only [List.getElem_toArray, List.getElem_cons_succ, List.getElem_cons_zero]
                  go_wp2_with fail
                  have gX := gA.alloc (.cells #[.int .i64 s, .int .i64 sec, .string data] 97)
                  have hownX := hownA.alloc (.cells #[.int .i64 s, .int .i64 sec, .string data] 97)
                  have hbX := Blk.new wA 97 #[.int .i64 s, .int .i64 sec, .string data] rfl
                  refine hK.out _ _ (.inr (fun _ => sk _ gX)) ?_
                  clear hK hownA hS
                case' f2b =>
                  intro K' hK
                  rw [if_pos (by rfl)]
                  simp only [List.getElem_toArray, List.getElem_cons_succ, List.getElem_cons_zero]
                  go_wp2_with fail
                  have gc := gb.alloc (.cells #[.int .i64 s, .int .i64 sec, .string data] 97)
                  have hbc := Blk.new (wb.alloc (.cells #[] 97)) 97 #[.int .i64 s, .int .i64 sec, .string data] (n := wb.heap.size + 1) (by simp)
                  refine hK.out _ _ (.inr (fun _ => sk _ gc)) ?_
                  clear hK hS
                  refine wpAnyR_n1 (i := 3) rfl (by kernel_rfl) ?_
                  intro K' hK
                  rw [if_pos (by rfl)]
                  simp only [List.getElem_toArray, List.getElem_cons_succ, List.getElem_cons_zero]
                  refine wp_pushAll (.tmp 43) (.tmp 45) 29 rfl wb.heap.size 97 3 32 _ Try.underlying29 info_rwr rfl (by decide) (.slice (some ⟨wb.heap.size, 0, none⟩) 0 0) [] (D5.pend.map wrC) rfl ((OwnL.empty wb _ _ _ (Nat.le_refl _) rfl).alloc _) _ D5.pend.length _ rfl (by rw [wrC_len]) (wrC_row _) (HLb.out.on gc) (wrC_one _) (by simp; omega) (by simp; omega) gc.size ?_
                  intro vA wA hownX hgrA hatA
                  have gX : Grew wb wA := Grew.own gc hgrA (own_one _ _ _) (Nat.le_refl _)
                  have hbX := hbc.own hgrA (own_ne _ _ (by omega))
                  refine hK.out _ _ (.inr (fun _ => sk _ gX)) ?_
                  clear hK hgrA hatA
              case' f1b =>
                intro K' hK
                rw [if_pos (by rfl)]
                simp only [List.getElem_toArray, List.getElem_cons_succ, List.getElem_cons_zero]
                go_wp2_with fail
                have gb := (Grew.refl wb).alloc (.cells #[.int .i64 s, .int .i64 sec, .string data] 97)
                have hbb9 := Blk.new wb 97 #[.int .i64 s, .int .i64 sec, .string data] rfl
                refine hK.out _ _ (.inr (fun _ => sk _ gb)) ?_
                clear hK
                refine wpAnyR_n1 (i := 0) rfl (by kernel_rfl) ?_
                intro K' hK
                rw [if_pos (by rfl)]
                simp only [List.getElem_toArray, List.getElem_cons_succ, List.getElem_cons_zero]
                go_wp2_with fail
                have gc := gb.alloc (.cells #[] 97)
                have hbc := hbb9.alloc (.cells #[] 97)
                refine hK.out _ _ (.inr (fun _ => sk _ gc)) ?_
                clear hK hS
                refine wpAnyR_n1 (i := 3) rfl (by kernel_rfl) ?_
                intro K' hK
                rw [if_pos (by rfl)]
                simp only [List.getElem_toArray, List.getElem_cons_succ, List.getElem_cons_zero]
                refine wp_pushAll (.tmp 43) (.tmp 45) 29 rfl wb.heap.size 97 3 32 _ Try.underlying29 info_rwr rfl (by decide) (.slice (some ⟨wb.heap.size + 1, 0, none⟩) 0 0) [] (D5.pend.map wrC) rfl (OwnL.empty (wb.alloc (.cells #[.int .i64 s, .int .i64 sec, .string data] 97)) wb.heap.size _ _ gb.size (by simp)) _ D5.pend.length _ rfl (by rw [wrC_len]) (wrC_row _) (HLb.out.on gc) (wrC_one _) (by simp; omega) (by simp; omega) gc.size ?_
                intro vA wA hownX hgrA hatA
                have gX : Grew wb wA := Grew.own gc hgrA (fun k hk => by have := own_one _ _ _ k hk; omega) (Nat.le_refl _)
                have hbX := hbc.own hgrA (own_ne _ _ (by omega))
                refine hK.out _ _ (.inr (fun _ => sk _ gX)) ?_
                clear hK hgrA hatA
              all_goals
                refine wpAnyR_n1 (i := 10) rfl (by kernel_rfl) ?_
                intro K' hK
                rw [if_pos (by rfl)]
                simp only [List.getElem_toArray, List.getElem_cons_succ, List.getElem_cons_zero]
                refine wp_push (.tmp 46) (.tmp 52) 29 rfl wb.heap.size 97 3 32 _ Try.underlying29 info_rwr rfl (by decide) _ vA ([] ++ D5.pend.map wrC) [.int .i64 s, .int .i64 sec, .string data] rfl rfl hownX _ rfl hbX rfl (by rw [List.nil_append, wrC_len]; omega) (by rw [List.nil_append, wrC_len]; omega) gX.size D5.pend.length (by rw [List.nil_append, wrC_len]) ?_
                intro g6 c6 w7 hown7 hgr7 hat7 hlt7
                have g7 : Grew wb w7 := Grew.own gX hgr7 hownX.row_ge (Nat.le_refl _)
                refine hK.out _ _ (.inr (fun _ => sk _ g7)) ?_
                have hb7 := hbb.grew g7
                have hr7 := hrb.grew g7
                have HO7 := Lib.hid hown7
                have HG7 := Lib.hid (hgb0.trans g7)
                have z2 := hb7.cell 2
                have zf2 := hb7.frozen 2
                have hxl7 := hb7.lt
                unfold rv at z2
                clear hK hgr7 hat7 hown7 hownX hbX gX sk g7
                refine wpAnyR_takeQ (i := 11) (v := ?_) (some 54) rfl rfl (by kernel_rfl) (by kernel_rfl) (by kernel_rfl) (by kernel_rfl) (fun _ _ _ h => h) (Or.inl ⟨by rfl, ?_⟩) ?_
                rotate_left
                focus (intro wS hSw; (try dsimp only at hSw); go_simp; (try with_reducible rfl); (try (first | (rw [if_pos (by omega)]; (try go_simp); (try with_reducible rfl)) | (rw [if_neg (by omega)]; (try go_simp); (try with_reducible rfl)))))
                try simp only [Act.put, List.setIfInBounds_toArray, List.set_cons_zero, List.set_cons_succ]
                refine wpAnyR_n1 (i := 12) rfl (by kernel_rfl) ?_
                intro K' hK
                rw [if_pos (by rfl)]
                simp only [List.getElem_toArray, List.getElem_cons_succ, List.getElem_cons_zero]
                go_wp2_with fail
                refine hK.out _ _ (.inl rfl) ?_
                clear hK z2 zf2
                refine wpAnyR_done (by kernel_rfl) ?_ _
                have hpl : (D5.pend ++ [(⟨s, sec.toNat, data⟩ : Wr)]).length = D5.pend.length + 1 := by simp
                have hb8 : Blk (w7.setCell ⟨w.heap.size, 2, none⟩ (.slice (some ⟨g6, 0, none⟩) (D5.pend.length + 1) c6)) w.heap.size 32 (rv { p5 with A2 := some ⟨g6, 0, none⟩, c2 := c6 } { D5 with pend := D5.pend ++ [⟨s, sec.toNat, data⟩] }) := (hb7.set_ 2 (.slice (some ⟨g6, 0, none⟩) (D5.pend.length + 1) c6)).conv (by unfold rv; rw [hpl]; rfl)
                have hr8 := hr7.far (p := ⟨w.heap.size, 2, none⟩) (by simp) (.slice (some ⟨g6, 0, none⟩) (D5.pend.length + 1) c6)
                have ht8 : Turned (fun k => k = w.heap.size ∨ k = w.heap.size + 2) w7 (w7.setCell ⟨w.heap.size, 2, none⟩ (.slice (some ⟨g6, 0, none⟩) (D5.pend.length + 1) c6)) := (Turned.refl _ w7).setCell (p := ⟨w.heap.size, 2, none⟩) (fun _ => .inl rfl) (.slice (some ⟨g6, 0, none⟩) (D5.pend.length + 1) c6)
                obtain ⟨w8, hw8⟩ : ∃ w8, w8 = w7.setCell ⟨w.heap.size, 2, none⟩ (.slice (some ⟨g6, 0, none⟩) (D5.pend.length + 1) c6) := ⟨_, rfl⟩
                rw [← hw8] at hb8 hr8 ht8 ⊢
                clear hw8 hb7 hr7
                generalize hP8 : D5.pend ++ [(⟨s, sec.toNat, data⟩ : Wr)] = P8 at *
                have HP8 := Lib.hid hP8
                clear hP8
                go_wp2_with (first | (refine wpList_load_blk rfl 32 _ rfl (w.heap.size) rfl 32 (rv ({ p5 with A2 := some ⟨g6, 0, none⟩, c2 := c6 }) ({ D5 with pend := P8 })) _ (hb8) Try.underlying32 rfl info_rdev ?_) | (refine wpList_store_blk rfl 32 _ _ rfl (w.heap.size + 2) (rv ({ p5 with A2 := some ⟨g6, 0, none⟩, c2 := c6 }) ({ D5 with pend := P8 })) rfl rfl 32 _ (hr8) rfl info_rdev (rv_one _ _) ?_))
                refine bodyPost_ret (results_cell_tmp_row rfl _ _ (w.heap.size + 2) 32 (rv ({ p5 with A2 := some ⟨g6, 0, none⟩, c2 := c6 }) ({ D5 with pend := P8 })) _ _ rfl rfl ((hr8).setRow _) Try.underlying32 rfl info_rdev) rfl ?_
                rw [HV.out]
                simp only [HP8.out]
                refine ⟨{ p5 with A2 := some ⟨g6, 0, none⟩, c2 := c6 }, rfl, ?_⟩
                have ht9 := ht8.setRow (g := w.heap.size + 2) (fun _ => .inr rfl) (rv { p5 with A2 := some ⟨g6, 0, none⟩, c2 := c6 } { D5 with pend := P8 })
                have hI7 := RDin.turn HH.out HI6.out (HG7.out.turned (fun _ => False)) (fun k hk => hk.elim)
                have hI9 := RDin.turn HH.out hI7 ht9 (fun k hk => by omega)
                have hrows : ([] ++ D5.pend.map wrC) ++ [[Value.int .i64 s, .int .i64 sec, .string data]] = P8.map wrC := by
                  rw [← HP8.out, List.nil_append, List.map_append]
                  show _ = _ ++ [[Value.int .i64 s, .int .i64 (sec.toNat : Int), .string data]]
                  rw [Int.toNat_of_nonneg htd.1]
                have hO9 := HO7.out.kept ht9 (fun g hg => by have := (HO7.out.own_ge hg).1; omega)
                obtain ⟨_, hc1, hc2⟩ := HO7.out.len
                have hge := (HO7.out.own_ge (g := g6) rfl).1
                rw [hrows] at hO9
                refine (hI9.new_pend (some ⟨g6, 0, none⟩) c6 P8 hO9.listA ⟨by rw [hpl]; exact hc1, hc2⟩ (fun r hr => ?_) (fun k hk => ?_)).out (by omega)
                · rw [← HP8.out] at hr
                  rcases List.mem_append.1 hr with hr | hr
                  · exact HI6.out.ref.ok.pend r hr
                  · rw [List.mem_singleton.1 hr]
                    exact ⟨by show sec.toNat < _; rw [HST5.out]; omega, HDS.out, h1, h4⟩
                · have := lies_own hk rfl
                  omega
    · have HV := Lib.hid (show writeD D s e sec data = (D, 1) from by unfold writeD; rw [if_pos (.inr hd)])
      have hdi : ((data.size : Int) == 140) = false := beq_eq_false_iff_ne.2 (by omega)
      have hdi' : ((data.size : Int) != 140) = true := bne_iff_ne.2 (by omega)
      clear hd
      go_wp2_with (first | (refine wpList_load_blk rfl 32 _ rfl (w.heap.size) rfl 32 (rv (p) (D)) _ (hb2) Try.underlying32 rfl info_rdev ?_) | (refine wpList_store_blk rfl 32 _ _ rfl (w.heap.size + 2) (rv (p) (D)) rfl rfl 32 _ (hr2) rfl info_rdev (rv_one _ _) ?_))
      refine bodyPost_ret (results_cell_tmp_row rfl _ _ (w.heap.size + 2) 32 (rv (p) (D)) _ _ rfl rfl ((hr2).setRow _) Try.underlying32 rfl info_rdev) rfl ?_
      rw [HV.out]
      exact ⟨p, rfl, RDid.same HH.out (hg2.setRow (by omega) _)⟩
end
end Go.Proofs.Ytklojcgbokmkhaa
