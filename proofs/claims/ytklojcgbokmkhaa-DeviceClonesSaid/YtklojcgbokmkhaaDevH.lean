/- Chapter 3: Write. -/
import Derived.Test.YtklojcgbokmkhaaDevG
namespace Go.Proofs.Ytklojcgbokmkhaa
set_option linter.unusedVariables false
set_option linter.unusedSimpArgs false
set_option linter.unusedSectionVars false
open Go.RowKit
open Go.Maps (Keyed)
attribute [local go_sem ↓] Go.wp_at_zero Go.wp_at_succ
theorem info_wr : (Try.prog.info? 77).map (fun i => (i.zero, i.size, i.bytes)) = some (some (.agg #[.int .i64 0, .int .i64 0, .string ⟨#[]⟩]), 3, 32) := by kernel_rfl
section
variable {w : World} {q : DevP} {D : Dev} (h : DevM w q D) (s e sec : Int) (data : ByteArray) (hsmall : D.pend.length ≤ 999999)
include h hsmall
set_option maxRecDepth 100000 in
set_option maxHeartbeats 8000000 in
theorem write_any (hsz : data.size ≤ 9223372036854775807) : Calls Try.prog 16 #[.pointer (some ⟨q.x, 0, none⟩), .agg #[.int .i64 s, .int .i64 e], .int .i64 sec, .string data] w fun er w' => er = .returned (.int .i64 (writeD D s e sec data).2) ∧ Did w w' q (writeD D s e sec data).1 := by
  have HH := Lib.hid h
  have hG0 := (Grew.refl w).alloc (.cells #[.int .i64 s, .int .i64 e] 40)
  have hA1 := Blk.new w 40 #[.int .i64 s, .int .i64 e] rfl
  have a0 := hA1.cell 0
  have a1 := hA1.cell 1
  have HPL := Lib.hid (plain_any (w.alloc (.cells #[.int .i64 s, .int .i64 e] 40)) s e)
  cases hp : plainW s e with
  | false =>
    have HV := Lib.hid (show writeD D s e sec data = (D, 1) from by unfold writeD; rw [if_pos (.inl hp)])
    have HP := Lib.hid hp
    clear h hp hA1
    go_enter Try.func16, Try.ntmps16
    go_wp2_with fail
    refine HPL.out.mono ?_
    rw [HP.out]
    rintro er w1 ⟨rfl, g1⟩
    have hG := hG0.trans g1
    go_wp2_with fail
    go_ret
    rw [HV.out]
    exact ⟨rfl, Did.same HH.out hG⟩
  | true =>
    by_cases hd : data.size = 140
    · cases ht : thereD D sec with
      | false =>
        have HV := Lib.hid (show writeD D s e sec data = (D, 2) from by unfold writeD; rw [if_neg (by rw [hp, hd]; simp), if_pos ht])
        have HP := Lib.hid hp
        have HT := Lib.hid ht
        have hdi : (data.size : Int) = 140 := by omega
        clear h hp hA1 ht hd
        go_enter Try.func16, Try.ntmps16
        go_wp2_with fail
        refine HPL.out.mono ?_
        rw [HP.out]
        rintro er w1 ⟨rfl, g1⟩
        have hG := hG0.trans g1
        have HTH := Lib.hid (there_any (HH.out.grew hG) sec false HT.out)
        go_wp2_with fail
        refine HTH.out.mono ?_
        rintro er w2 ⟨rfl, rfl⟩
        go_wp2_with fail
        go_ret
        rw [HV.out]
        exact ⟨rfl, Did.same HH.out hG⟩
      | true =>
        have HV := Lib.hid (show writeD D s e sec data = if (admitD D s e).2 ≠ 0 then admitD D s e else ({ (admitD D s e).1 with pend := (admitD D s e).1.pend ++ [⟨s, sec.toNat, data⟩] }, 0) from by unfold writeD; rw [if_neg (by rw [hp, hd]; simp), if_neg (by rw [ht]; decide)])
        have HP := Lib.hid hp
        have HT := Lib.hid ht
        have hdi : (data.size : Int) = 140 := by omega
        have HDS := Lib.hid hd
        have HTH0 := Lib.hid (of_decide_eq_true ht)
        have HKZ := fun hz => Lib.hid (admitD_zero_kept (D := D) (s := s) (e := e) hz)
        clear h hp hA1 ht hd
        generalize hAD : admitD D s e = AD at *
        obtain ⟨D1, er1⟩ := AD
        have HAD := Lib.hid hAD
        clear hAD
        go_enter Try.func16, Try.ntmps16
        go_wp2_with fail
        refine HPL.out.mono ?_
        rw [HP.out]
        rintro er w1 ⟨rfl, g1⟩
        have hG := hG0.trans g1
        have HTH := Lib.hid (there_any (HH.out.grew hG) sec true HT.out)
        have b0 := (g1.cellEq w.heap.size 0 (by simp)).trans a0
        have b1 := (g1.cellEq w.heap.size 1 (by simp)).trans a1
        have HAM := Lib.hid (admit_any (HH.out.grew hG) s e HP.out (by omega))
        have HG := Lib.hid hG
        have hwl : w.heap.size < w1.heap.size := by have := g1.size; simp at this; omega
        rw [HAD.out] at HAM
        clear g1 a0 a1 hG0 hG
        go_wp2_with fail
        refine HTH.out.mono ?_
        rintro er w2 ⟨rfl, rfl⟩
        go_wp2_with fail
        refine HAM.out.mono ?_
        rintro er w3 ⟨rfl, q3, hd3, hf3, ht3⟩
        have HF3 := Lib.hid hf3
        have hnf : ¬ q.feet w.heap.size := fun hh => absurd (HH.out.feet_lt _ hh) (by omega)
        have b0' := (ht3.cellEq w.heap.size 0 hwl hnf).trans b0
        have b1' := (ht3.cellEq w.heap.size 1 hwl hnf).trans b1
        have HT3 := Lib.hid ((HG.out.turned q.feet).trans ht3)
        have HD3 := Lib.hid hd3
        have hwl3 : w.heap.size < w3.heap.size := by have := ht3.size; omega
        have HDID := Lib.hid (show Did w1 w3 q D1 from ⟨q3, hd3, hf3, ht3⟩)
        have HT39 := Lib.hid ht3
        have hnf3 : ¬ q3.feet w.heap.size := fun hh => (hf3.feet _ hh).elim hnf (fun h9 => absurd hwl (by omega))
        clear hf3 hd3 ht3 b0 b1
        by_cases hz : er1 = 0
        · subst hz
          obtain ⟨fu, hD1⟩ := (HKZ rfl).out
          have HKD := Lib.hid hD1
          have hpe : D1.pend = D.pend := by rw [hD1]
          have hpl1 : D1.pend.length ≤ 999999 := by rw [hpe]; exact hsmall
          have hst1 : D1.st.length = D.st.length := by rw [hD1]
          have HPE := Lib.hid hpe
          have HS1 := Lib.hid hst1
          clear hD1 hpe hst1 HKZ
          have hb3 := HD3.out.blk
          rw [HF3.out.x] at hb3
          have hxl3 := hb3.lt
          have x2 := hb3.cell 2
          have HB3 := Lib.hid hb3
          have hsys := of_decide_eq_true HP.out
          clear hb3
          go_wp2_with fail
          refine wp_region_R [14] (fun w' : World => w'.cell? ⟨w.heap.size, 0, none⟩ = some (.int .i64 s) ∧ w'.cell? ⟨q.x, 2, none⟩ = some q3.vp) (by kernel_rfl) ?_
          have hS := (show (fun w' : World => w'.cell? ⟨w.heap.size, 0, none⟩ = some (.int .i64 s) ∧ w'.cell? ⟨q.x, 2, none⟩ = some q3.vp) w3.drew from ⟨b0', x2⟩)
          refine wpAnyR_takeQ (i := 0) (v := ?_) (some 28) rfl rfl (by kernel_rfl) (by kernel_rfl) (by kernel_rfl) (by kernel_rfl) (fun _ _ _ h => h) (Or.inl ⟨by rfl, ?_⟩) ?_
          rotate_left
          focus (intro wS hSw; (try dsimp only at hSw); go_simp; (try with_reducible rfl); (try (first | (rw [if_pos (by omega)]; (try go_simp); (try with_reducible rfl)) | (rw [if_neg (by omega)]; (try go_simp); (try with_reducible rfl)))))
          try simp only [Act.put, List.setIfInBounds_toArray, List.set_cons_zero, List.set_cons_succ]
          refine wpAnyR_takeQ (i := 1) (v := ?_) (some 29) rfl rfl (by kernel_rfl) (by kernel_rfl) (by kernel_rfl) (by kernel_rfl) (fun _ _ _ h => h) (Or.inl ⟨by rfl, ?_⟩) ?_
          rotate_left
          focus (intro wS hSw; (try dsimp only at hSw); go_simp; (try with_reducible rfl); (try (first | (rw [if_pos (by omega)]; (try go_simp); (try with_reducible rfl)) | (rw [if_neg (by omega)]; (try go_simp); (try with_reducible rfl)))))
          try simp only [Act.put, List.setIfInBounds_toArray, List.set_cons_zero, List.set_cons_succ]
          refine wpAnyR_take (i := 2) (v := ?_) [3, 4, 11, 12, 13, 14] (some 30) rfl rfl (by kernel_rfl) (by kernel_rfl) (by kernel_rfl) (by kernel_rfl) (by kernel_rfl) (by kernel_rfl) (by kernel_rfl) (fun _ _ _ h => h) (Or.inl ⟨by rfl, ?_⟩) hS ?_
          rotate_left
          focus (intro wS hSw; (try dsimp only at hSw); go_simp; (try with_reducible rfl); (try (first | (rw [if_pos (by omega)]; (try go_simp); (try with_reducible rfl)) | (rw [if_neg (by omega)]; (try go_simp); (try with_reducible rfl)))))
          try simp only [Act.put, List.setIfInBounds_toArray, List.set_cons_zero, List.set_cons_succ]
          refine wpAnyR_takeQ (i := 3) (v := ?_) (some 31) rfl rfl (by kernel_rfl) (by kernel_rfl) (by kernel_rfl) (by kernel_rfl) (fun _ _ _ h => h) (Or.inl ⟨by rfl, ?_⟩) ?_
          rotate_left
          focus (intro wS hSw; (try dsimp only at hSw); go_simp; (try with_reducible rfl); (try (first | (rw [if_pos (by omega)]; (try go_simp); (try with_reducible rfl)) | (rw [if_neg (by omega)]; (try go_simp); (try with_reducible rfl)))))
          try simp only [Act.put, List.setIfInBounds_toArray, List.set_cons_zero, List.set_cons_succ]
          refine wpAnyR_take (i := 4) (v := ?_) [11, 12, 13, 14] (some 32) rfl rfl (by kernel_rfl) (by kernel_rfl) (by kernel_rfl) (by kernel_rfl) (by kernel_rfl) (by kernel_rfl) (by kernel_rfl) (fun _ _ _ h => h) (Or.inl ⟨by rfl, ?_⟩) hS ?_
          rotate_left
          focus (intro wS hSw; (try dsimp only at hSw); go_simp; (try with_reducible rfl); (try (first | (rw [if_pos (by omega)]; (try go_simp); (try with_reducible rfl)) | (rw [if_neg (by omega)]; (try go_simp); (try with_reducible rfl)))))
          try simp only [Act.put, List.setIfInBounds_toArray, List.set_cons_zero, List.set_cons_succ]
          refine wpAnyR_takeQ (i := 5) (v := ?_) (some 33) rfl rfl (by kernel_rfl) (by kernel_rfl) (by kernel_rfl) (by kernel_rfl) (fun _ _ _ h => h) (Or.inl ⟨by rfl, ?_⟩) ?_
          rotate_left
          focus (intro wS hSw; (try dsimp only at hSw); go_simp; (try with_reducible rfl); (try (first | (rw [if_pos (by omega)]; (try go_simp); (try with_reducible rfl)) | (rw [if_neg (by omega)]; (try go_simp); (try with_reducible rfl)))))
          try simp only [Act.put, List.setIfInBounds_toArray, List.set_cons_zero, List.set_cons_succ]
          refine wpAnyR_take (i := 6) (v := ?_) [9, 10, 11, 12, 13, 14] (some 34) rfl rfl (by kernel_rfl) (by kernel_rfl) (by kernel_rfl) (by kernel_rfl) (by kernel_rfl) (by kernel_rfl) (by kernel_rfl) (fun _ _ _ h => h) (Or.inl ⟨by rfl, ?_⟩) hS ?_
          rotate_left
          focus (intro wS hSw; (try dsimp only at hSw); go_simp; (try with_reducible rfl); (try (first | (rw [if_pos (by omega)]; (try go_simp); (try with_reducible rfl)) | (rw [if_neg (by omega)]; (try go_simp); (try with_reducible rfl)))))
          try simp only [Act.put, List.setIfInBounds_toArray, List.set_cons_zero, List.set_cons_succ]
          refine wpAnyR_takeQ (i := 7) (v := ?_) (some 35) rfl rfl (by kernel_rfl) (by kernel_rfl) (by kernel_rfl) (by kernel_rfl) (fun _ _ _ h => h) (Or.inl ⟨by rfl, ?_⟩) ?_
          rotate_left
          focus (intro wS hSw; (try dsimp only at hSw); go_simp; (try with_reducible rfl); (try (first | (rw [if_pos (by omega)]; (try go_simp); (try with_reducible rfl)) | (rw [if_neg (by omega)]; (try go_simp); (try with_reducible rfl)))))
          try simp only [Act.put, List.setIfInBounds_toArray, List.set_cons_zero, List.set_cons_succ]
          refine wpAnyR_takeQ (i := 8) (v := ?_) (some 36) rfl rfl (by kernel_rfl) (by kernel_rfl) (by kernel_rfl) (by kernel_rfl) (fun _ _ _ h => h) (Or.inl ⟨by rfl, ?_⟩) ?_
          rotate_left
          focus (intro wS hSw; (try dsimp only at hSw); go_simp; (try with_reducible rfl); (try (first | (rw [if_pos (by omega)]; (try go_simp); (try with_reducible rfl)) | (rw [if_neg (by omega)]; (try go_simp); (try with_reducible rfl)))))
          try simp only [Act.put, List.setIfInBounds_toArray, List.set_cons_zero, List.set_cons_succ]
          refine wpAnyR_takeQ (i := 9) (v := ?_) (some 37) rfl rfl (by kernel_rfl) (by kernel_rfl) (by kernel_rfl) (by kernel_rfl) (fun _ _ _ h => h) (Or.inl ⟨by rfl, ?_⟩) ?_
          rotate_left
          focus (intro wS hSw; (try dsimp only at hSw); go_simp; (try with_reducible rfl); (try (first | (rw [if_pos (by omega)]; (try go_simp); (try with_reducible rfl)) | (rw [if_neg (by omega)]; (try go_simp); (try with_reducible rfl)))))
          try simp only [Act.put, List.setIfInBounds_toArray, List.set_cons_zero, List.set_cons_succ]
          refine wpAnyR_n1 (i := 10) rfl (by kernel_rfl) ?_
          intro K' hK
          rw [if_pos (by rfl)]
          simp only [List.getElem_toArray, List.getElem_cons_succ, List.getElem_cons_zero]
          go_wp2_with fail
          have hg4 := ((Grew.refl w3.drew).alloc (.cells #[.int .i64 s, .int .i64 sec, .string data] 77))
          have hB4 := HB3.out.drew.grew hg4
          refine hK.out _ _ (.inr (fun _ => ⟨(hg4.cellEq _ _ (by show w.heap.size < w3.heap.size; omega)).trans b0', hB4.cell 2⟩)) ?_
          clear hK hS
          refine wpAnyR_n1 (i := 11) rfl (by kernel_rfl) ?_
          intro K' hK
          rw [if_pos (by rfl)]
          simp only [List.getElem_toArray, List.getElem_cons_succ, List.getElem_cons_zero]
          have hpo := (HD3.out.grew (Grew.refl w3).drew).pend
          refine wp_push (.tmp 32) (.tmp 38) 65 rfl 0 77 3 32 _ Try.underlying65 info_wr rfl (by decide) _ q3.vp (D1.pend.map wrC) [.int .i64 s, .int .i64 sec, .string data] rfl rfl (hpo.grew hg4) w3.heap.size rfl (Blk.new w3.drew _ _ rfl) rfl (by rw [wrC_len]; omega) (by rw [wrC_len]; omega) (Nat.zero_le _) D1.pend.length (wrC_len _) ?_
          intro g5 c5 w5 hown5 hgrow hat hlt5
          have hgx : q3.vp.ownBlock ≠ some q.x := by rw [← HF3.out.x]; exact HD3.out.pend.ne_blk HD3.out.blk (by decide)
          have hgb : q3.vp.ownBlock ≠ some w.heap.size := fun hh => hnf3 (.inr (.inr (.inr (.inr (.inl hh)))))
          have ht5 := ((((Grew.refl w3).drew).alloc (.cells #[.int .i64 s, .int .i64 sec, .string data] 77)).turned (fun k => q3.vp.ownBlock = some k)).trans ⟨hgrow.os, hgrow.tape, hgrow.output, hgrow.size, fun k hk hn => hgrow.block k hk (fun e => hn e.symm)⟩
          have hB5 := HB3.out.turned ht5 hgx
          have hc5 := (ht5.cellEq w.heap.size 0 hwl3 hgb).trans b0'
          have x5 := hB5.cell 2
          have f5 := hB5.frozen 2
          have hl5 := hB5.lt
          refine hK.out _ _ (.inr (fun _ => ⟨hc5, x5⟩)) ?_
          clear hK
          have hS := (show (fun w' : World => w'.cell? ⟨w.heap.size, 0, none⟩ = some (.int .i64 s) ∧ w'.cell? ⟨q.x, 2, none⟩ = some q3.vp) w5 from ⟨hc5, x5⟩)
          simp only [Act.put, List.setIfInBounds_toArray, List.set_cons_zero, List.set_cons_succ]
          refine wpAnyR_take (i := 12) (v := ?_) [13, 14] (some 40) rfl rfl (by kernel_rfl) (by kernel_rfl) (by kernel_rfl) (by kernel_rfl) (by kernel_rfl) (by kernel_rfl) (by kernel_rfl) (fun _ _ _ h => h) (Or.inl ⟨by rfl, ?_⟩) hS ?_
          rotate_left
          focus (intro wS hSw; (try dsimp only at hSw); go_simp; (try with_reducible rfl); (try (first | (rw [if_pos (by omega)]; (try go_simp); (try with_reducible rfl)) | (rw [if_neg (by omega)]; (try go_simp); (try with_reducible rfl)))))
          try simp only [Act.put, List.setIfInBounds_toArray, List.set_cons_zero, List.set_cons_succ]
          refine wpAnyR_takeQ (i := 13) (v := ?_) (some 41) rfl rfl (by kernel_rfl) (by kernel_rfl) (by kernel_rfl) (by kernel_rfl) (fun _ _ _ h => h) (Or.inl ⟨by rfl, ?_⟩) ?_
          rotate_left
          focus (intro wS hSw; (try dsimp only at hSw); go_simp; (try with_reducible rfl); (try (first | (rw [if_pos (by omega)]; (try go_simp); (try with_reducible rfl)) | (rw [if_neg (by omega)]; (try go_simp); (try with_reducible rfl)))))
          try simp only [Act.put, List.setIfInBounds_toArray, List.set_cons_zero, List.set_cons_succ]
          refine wpAnyR_n1 (i := 14) rfl (by kernel_rfl) ?_
          intro K' hK
          rw [if_pos (by rfl)]
          simp only [List.getElem_toArray, List.getElem_cons_succ, List.getElem_cons_zero]
          go_wp2_with fail
          refine hK.out _ _ (.inl rfl) ?_
          clear hK hS
          refine wpAnyR_done (by kernel_rfl) ?_ _
          have hthere := HTH0.out
          have hnew := HD3.out.new_pend (w1 := w5) ht5 (P' := D1.pend ++ [⟨s, sec.toNat, data⟩]) (vp' := .slice (some ⟨g5, 0, none⟩) (D1.pend.length + 1) c5) (by
              rw [List.map_append]
              have : [(⟨s, sec.toNat, data⟩ : Wr)].map wrC = [[.int .i64 s, .int .i64 sec, .string data]] := by
                show [[Value.int .i64 s, .int .i64 ((sec.toNat : Nat) : Int), .string data]] = _
                rw [Int.toNat_of_nonneg hthere.1]
              rw [this]
              exact hown5) (fun r hr => by
              rcases List.mem_append.1 hr with hr | hr
              · exact HD3.out.ok.pend r hr
              · rw [List.mem_singleton.1 hr]
                refine ⟨?_, HDS.out, ?_⟩
                · rw [HS1.out]; show sec.toNat < _; omega
                · show 1 ≤ s ∧ s ≤ 4; omega)
          rw [HF3.out.x] at hnew
          have HNEW := Lib.hid hnew
          have HT5 := Lib.hid ht5
          clear hnew ht5 hgrow hown5 hB5 hB4 hc5 x5 f5 b0' b1' x2
          go_wp2_with fail
          go_ret
          rw [HV.out, if_neg (by decide)]
          refine ⟨rfl, Did.trans (Foot'.refl w q) (HG.out.turned _) (Did.trans HF3.out HT39.out ⟨_, HNEW.out, ⟨HF3.out.x.symm, rfl, fun k hk => ?_⟩, ?_⟩)⟩
          · rcases hk with hk | hk | hk | hk | hk | hk | hk
            · exact .inl (.inl (hk.trans HF3.out.x.symm))
            · exact .inl (.inr (.inl hk))
            · exact .inl (.inr (.inr (.inl hk)))
            · exact .inl (.inr (.inr (.inr (.inl hk))))
            · rcases hat with hat | hat
              · exact .inl (.inr (.inr (.inr (.inr (.inl (by rw [hat]; exact hk))))))
              · injection hk with hk; subst hk; rw [hat]; right; simp
            · exact .inl (.inr (.inr (.inr (.inr (.inr (.inl hk))))))
            · exact .inl (.inr (.inr (.inr (.inr (.inr (.inr hk))))))
          · exact (HT5.out.mono (fun k _ hk => .inr (.inr (.inr (.inr (.inl hk)))))).setCell (p := ⟨q.x, 2, none⟩) (fun _ => .inl HF3.out.x.symm) _
        · have hz' : (er1 == 0) = false := beq_eq_false_iff_ne.2 hz
          have HZ := Lib.hid hz
          clear hz
          go_wp2_with fail
          go_ret
          rw [HV.out, if_pos HZ.out]
          exact ⟨rfl, Did.trans (Foot'.refl w q) (HG.out.turned _) HDID.out⟩
    · have HV := Lib.hid (show writeD D s e sec data = (D, 1) from by unfold writeD; rw [if_pos (.inr hd)])
      have HP := Lib.hid hp
      have hdi : ¬ (data.size : Int) = 140 := by omega
      clear h hp hA1 hd
      go_enter Try.func16, Try.ntmps16
      go_wp2_with fail
      refine HPL.out.mono ?_
      rw [HP.out]
      rintro er w1 ⟨rfl, g1⟩
      have hG := hG0.trans g1
      go_wp2_with fail
      go_ret
      rw [HV.out]
      exact ⟨rfl, Did.same HH.out hG⟩
end
end Go.Proofs.Ytklojcgbokmkhaa
