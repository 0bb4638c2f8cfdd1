/- Chapter 3: Damage, Return. -/
import Derived.Test.YtklojcgbokmkhaaDevJ
import Derived.Laws.IdiomStrings
namespace Go.Proofs.Ytklojcgbokmkhaa
set_option linter.unusedVariables false
set_option linter.unusedSimpArgs false
set_option linter.unusedSectionVars false
open Go.RowKit
open Go.Maps (Keyed)
attribute [local go_sem ↓] Go.wp_at_zero Go.wp_at_succ
theorem xor8 (a m : UInt8) : bits BinOp.xor IntKind.u8 (a.toNat : Int) (m.toNat : Int) = ((a.toNat ^^^ m.toNat : Nat) : Int) := by
  have e : ∀ x : UInt8, BitVec.ofInt 8 (x.toNat : Int) = x.toBitVec := fun x => BitVec.eq_of_toNat_eq (by
    rw [BitVec.ofInt_natCast, BitVec.toNat_ofNat]
    exact Nat.mod_eq_of_lt x.toNat_lt)
  rw [← UInt8.toNat_xor]
  show IntKind.u8.wrap (((BitVec.ofInt 8 (a.toNat : Int)) ^^^ (BitVec.ofInt 8 (m.toNat : Int))).toNat : Int) = _
  rw [e, e]
  show IntKind.u8.wrap ((a ^^^ m).toNat : Int) = _
  have := (a ^^^ m).toNat_lt
  generalize (a ^^^ m).toNat = n at *
  simp only [IntKind.wrap, IntKind.signed, IntKind.bits]
  simp
  omega
theorem xorB_size (s : ByteArray) (i : Nat) (m : UInt8) : (xorB s i m).size = s.size := by
  unfold xorB
  exact Array.size_modify ..
/-- The bytes of a string, in memory. -/
theorem bytes_open (w : World) (s : ByteArray) : ∃ wb cap, (convert 9 70 (.string s)).run Try.prog w = .ok (.slice (some ⟨w.heap.size, 0, none⟩) s.size cap) wb ∧ Grew w wb ∧ wb.heap.size = w.heap.size + 1 ∧
    (∀ j (hj : j < s.size), wb.cell? ⟨w.heap.size, j, none⟩ = some (.int .u8 (s[j].toNat : Int))) ∧ (∀ j, j < s.size → wb.frozen? ⟨w.heap.size, j, none⟩ = false) := by
  refine ⟨_, _, run_bytes_of_string (P := Try.prog) w 9 70 5 s Try.underlying9 Try.underlying70 Try.underlying5, ((Grew.refl w).drew.alloc _), by simp, fun j hj => ?_, fun j hj => ?_⟩
  · show (w.drew.alloc _).cell? ⟨w.drew.heap.size, j, none⟩ = _
    rw [cell_of_row _ w.drew.heap.size j _ _ _ (heap_alloc_new w.drew _), bytesRow_at s _ j hj]
    rfl
  · show (w.drew.alloc _).frozen? ⟨w.drew.heap.size, j, none⟩ = _
    rw [World.frozen?_alloc_mark]
    have : (bytesRow s (grownCap w s.size 0 5)).size ≥ s.size := by
      unfold bytesRow
      rw [Array.size_append, Array.size_map]
      show s.data.size + _ ≥ s.data.size
      omega
    rw [decide_eq_false (by omega)]; rfl
section
variable {w : World} {q : DevP} {D : Dev} (h : DevM w q D)
include h
set_option maxRecDepth 100000 in
set_option maxHeartbeats 4000000 in
theorem return_any (sec back : Int) (hs : okI sec) (hb : okI back) : Calls Try.prog 22 #[.pointer (some ⟨q.x, 0, none⟩), .int .i64 sec, .int .i64 back] w fun er w' => er = .returned (.int .i64 (returnD D sec back).2) ∧ Did w w' q (returnD D sec back).1 := by
  have HH := Lib.hid h
  unfold okI at hs hb
  cases ht : thereD D sec with
  | false =>
    have HV := Lib.hid (show returnD D sec back = (D, 2) from by unfold returnD; rw [if_pos (.inl ht)])
    have HT := Lib.hid (there_any h sec false ht)
    clear h ht
    go_enter Try.func22, Try.ntmps22
    go_wp2_with fail
    refine HT.out.mono ?_
    rintro er w1 ⟨rfl, rfl⟩
    go_wp2_with fail
    go_ret
    rw [HV.out]
    exact ⟨rfl, Did.same HH.out (Grew.refl _)⟩
  | true =>
    have h0 := of_decide_eq_true ht
    obtain ⟨k, rfl⟩ : ∃ k : Nat, sec = (k : Int) := ⟨sec.toNat, by omega⟩
    have HT := Lib.hid (there_any h k true ht)
    have hkl : k < D.st.length := by omega
    by_cases hb1 : back < 1
    · have HV := Lib.hid (show returnD D k back = (D, 2) from by unfold returnD; rw [if_pos (.inr (.inl hb1))])
      clear h ht
      go_enter Try.func22, Try.ntmps22
      go_wp2_with fail
      refine HT.out.mono ?_
      rintro er w1 ⟨rfl, rfl⟩
      go_wp2_with fail
      go_ret
      rw [HV.out]
      exact ⟨rfl, Did.same HH.out (Grew.refl _)⟩
    · obtain ⟨g, cap, hv, hg, h1, h2, h3⟩ := h.old_form
      obtain ⟨gs, cs, hvs, hgs, hs1, hs2, hs3⟩ := h.st_form
      obtain ⟨v, hv1, hown, _⟩ := h.old_at hkl
      have y0 := h.old_cell hv hv1
      have hk := h.blk
      rw [hv, hvs] at hk
      have hxl := hk.lt
      have x1 := hk.cell 1
      have x0 := hk.cell 0
      have hol := olds_len h.ok k
      obtain ⟨A, c, rfl, hc1, hc2, hl⟩ := hown.listAt
      rw [strC_len] at y0 hc1
      have HL := Lib.hid hl
      by_cases hb2 : ((D.olds k).length : Int) < back
      · have HV := Lib.hid (show returnD D k back = (D, 2) from by unfold returnD; rw [if_pos (.inr (.inr (by rw [Int.toNat_natCast]; exact hb2)))])
        clear h ht hv hvs hv1 hk hl hown
        go_enter Try.func22, Try.ntmps22
        go_wp2_with fail
        refine HT.out.mono ?_
        rintro er w1 ⟨rfl, rfl⟩
        go_wp2_with fail
        go_ret
        rw [HV.out]
        exact ⟨rfl, Did.same HH.out (Grew.refl _)⟩
      · obtain ⟨j, rfl⟩ : ∃ j : Nat, back = (j : Int) + 1 := ⟨back.toNat - 1, by omega⟩
        have hjl : j < (D.olds k).length := by omega
        have HV := Lib.hid (show returnD D k ((j : Int) + 1) = ({ D with st := D.st.set k (D.olds k)[j] }, 0) from by
          unfold returnD
          rw [if_neg (by rw [ht, Int.toNat_natCast]; simp; omega), Int.toNat_natCast, show ((j : Int) + 1).toNat - 1 = j by omega, List.getD_eq_getElem?_getD, List.getElem?_eq_getElem hjl]; rfl)
        obtain ⟨bo, off, rfl, hbo, hcc⟩ := hl (by rw [strC_len]; omega)
        have z0 : w.cell? ⟨bo, off + j, none⟩ = some (.string (D.olds k)[j]) := by
          have := hcc j (strC (D.olds k)[j]) (by rw [List.getElem?_map, List.getElem?_eq_getElem hjl]; rfl) 0 _ rfl
          rwa [Nat.mul_one, Nat.add_zero] at this
        have HSZ := Lib.hid (olds_size h.ok k _ (List.getElem_mem hjl))
        have HVS := Lib.hid hvs
        have y1 := h.st_cell hvs hkl
        have hst := h.st
        rw [hvs] at hst
        have f1 := hst.frozen k
        generalize (D.olds k)[j] = u at *
        generalize (D.olds k).length = ln at *
        generalize D.at k = atk at *
        have hw1 : (j : Int) + 1 - 1 = (j : Int) := by omega
        have hwr : IntKind.i64.wrap (j : Int) = (j : Int) := by rw [IntKind.wrap_i64]; omega
        have hS := (show (fun w' : World => w'.cell? ⟨q.x, 0, none⟩ = some (.slice (some ⟨gs, 0, none⟩) D.st.length cs) ∧ w'.cell? ⟨q.x, 1, none⟩ = some (.slice (some ⟨g, 0, none⟩) D.st.length cap) ∧ w'.cell? ⟨g, k, none⟩ = some (.slice (some ⟨bo, off, none⟩) ln c) ∧ w'.cell? ⟨bo, off + j, none⟩ = some (.string u)) w.drew from ⟨x0, x1, y0, z0⟩)
        clear h ht hv hvs hv1 hk hl hown hcc hst HL
        go_enter Try.func22, Try.ntmps22
        go_wp2_with fail
        refine HT.out.mono ?_
        rintro er w1 ⟨rfl, rfl⟩
        go_wp2_with fail
        refine wp_region_R [17] (fun w' : World => w'.cell? ⟨q.x, 0, none⟩ = some (.slice (some ⟨gs, 0, none⟩) D.st.length cs) ∧ w'.cell? ⟨q.x, 1, none⟩ = some (.slice (some ⟨g, 0, none⟩) D.st.length cap) ∧ w'.cell? ⟨g, k, none⟩ = some (.slice (some ⟨bo, off, none⟩) ln c) ∧ w'.cell? ⟨bo, off + j, none⟩ = some (.string u)) (by kernel_rfl) ?_
        refine wpAnyR_takeQ (i := 0) (v := ?_) (some 27) rfl rfl (by kernel_rfl) (by kernel_rfl) (by kernel_rfl) (by kernel_rfl) (fun _ _ _ h => h) (Or.inl ⟨by rfl, ?_⟩) ?_
        rotate_left
        focus (intro wS hSw; (try dsimp only at hSw); go_simp; (try with_reducible rfl); (try (first | (rw [if_pos (by omega)]; (try go_simp); (try with_reducible rfl)) | (rw [if_neg (by omega)]; (try go_simp); (try with_reducible rfl)))))
        try simp only [Act.put, List.setIfInBounds_toArray, List.set_cons_zero, List.set_cons_succ]
        refine wpAnyR_take (i := 1) (v := ?_) [2, 3, 16, 17] (some 28) rfl rfl (by kernel_rfl) (by kernel_rfl) (by kernel_rfl) (by kernel_rfl) (by kernel_rfl) (by kernel_rfl) (by kernel_rfl) (fun _ _ _ h => h) (Or.inl ⟨by rfl, ?_⟩) hS ?_
        rotate_left
        focus (intro wS hSw; (try dsimp only at hSw); go_simp; (try with_reducible rfl); (try (first | (rw [if_pos (by omega)]; (try go_simp); (try with_reducible rfl)) | (rw [if_neg (by omega)]; (try go_simp); (try with_reducible rfl)))))
        try simp only [Act.put, List.setIfInBounds_toArray, List.set_cons_zero, List.set_cons_succ]
        refine wpAnyR_takeQ (i := 2) (v := ?_) (some 29) rfl rfl (by kernel_rfl) (by kernel_rfl) (by kernel_rfl) (by kernel_rfl) (fun _ _ _ h => h) (Or.inl ⟨by rfl, ?_⟩) ?_
        rotate_left
        focus (intro wS hSw; (try dsimp only at hSw); go_simp; (try with_reducible rfl); (try (first | (rw [if_pos (by omega)]; (try go_simp); (try with_reducible rfl)) | (rw [if_neg (by omega)]; (try go_simp); (try with_reducible rfl)))))
        try simp only [Act.put, List.setIfInBounds_toArray, List.set_cons_zero, List.set_cons_succ]
        refine wpAnyR_take (i := 3) (v := ?_) [16, 17] (some 30) rfl rfl (by kernel_rfl) (by kernel_rfl) (by kernel_rfl) (by kernel_rfl) (by kernel_rfl) (by kernel_rfl) (by kernel_rfl) (fun _ _ _ h => h) (Or.inl ⟨by rfl, ?_⟩) hS ?_
        rotate_left
        focus (intro wS hSw; (try dsimp only at hSw); go_simp; (try with_reducible rfl); (try (first | (rw [if_pos (by omega)]; (try go_simp); (try with_reducible rfl)) | (rw [if_neg (by omega)]; (try go_simp); (try with_reducible rfl)))))
        try simp only [Act.put, List.setIfInBounds_toArray, List.set_cons_zero, List.set_cons_succ]
        refine wpAnyR_takeQ (i := 4) (v := ?_) (some 31) rfl rfl (by kernel_rfl) (by kernel_rfl) (by kernel_rfl) (by kernel_rfl) (fun _ _ _ h => h) (Or.inl ⟨by rfl, ?_⟩) ?_
        rotate_left
        focus (intro wS hSw; (try dsimp only at hSw); go_simp; (try with_reducible rfl); (try (first | (rw [if_pos (by omega)]; (try go_simp); (try with_reducible rfl)) | (rw [if_neg (by omega)]; (try go_simp); (try with_reducible rfl)))))
        try simp only [Act.put, List.setIfInBounds_toArray, List.set_cons_zero, List.set_cons_succ]
        refine wpAnyR_takeQ (i := 5) (v := ?_) (some 32) rfl rfl (by kernel_rfl) (by kernel_rfl) (by kernel_rfl) (by kernel_rfl) (fun _ _ _ h => h) (Or.inl ⟨by rfl, ?_⟩) ?_
        rotate_left
        focus (intro wS hSw; (try dsimp only at hSw); go_simp; (try with_reducible rfl); (try (first | (rw [if_pos (by omega)]; (try go_simp); (try with_reducible rfl)) | (rw [if_neg (by omega)]; (try go_simp); (try with_reducible rfl)))))
        try simp only [Act.put, List.setIfInBounds_toArray, List.set_cons_zero, List.set_cons_succ]
        refine wpAnyR_take (i := 6) (v := ?_) [7, 8, 10, 11, 14, 15, 16, 17] (some 33) rfl rfl (by kernel_rfl) (by kernel_rfl) (by kernel_rfl) (by kernel_rfl) (by kernel_rfl) (by kernel_rfl) (by kernel_rfl) (fun _ _ _ h => h) (Or.inl ⟨by rfl, ?_⟩) hS ?_
        rotate_left
        focus (intro wS hSw; (try dsimp only at hSw); go_simp; (try with_reducible rfl); (try (first | (rw [if_pos (by omega)]; (try go_simp); (try with_reducible rfl)) | (rw [if_neg (by omega)]; (try go_simp); (try with_reducible rfl)))))
        try simp only [Act.put, List.setIfInBounds_toArray, List.set_cons_zero, List.set_cons_succ]
        refine wpAnyR_takeQ (i := 7) (v := ?_) (some 34) rfl rfl (by kernel_rfl) (by kernel_rfl) (by kernel_rfl) (by kernel_rfl) (fun _ _ _ h => h) (Or.inl ⟨by rfl, ?_⟩) ?_
        rotate_left
        focus (intro wS hSw; (try dsimp only at hSw); go_simp; (try with_reducible rfl); (try (first | (rw [if_pos (by omega)]; (try go_simp); (try with_reducible rfl)) | (rw [if_neg (by omega)]; (try go_simp); (try with_reducible rfl)))))
        try simp only [Act.put, List.setIfInBounds_toArray, List.set_cons_zero, List.set_cons_succ]
        refine wpAnyR_take (i := 8) (v := ?_) [10, 11, 14, 15, 16, 17] (some 35) rfl rfl (by kernel_rfl) (by kernel_rfl) (by kernel_rfl) (by kernel_rfl) (by kernel_rfl) (by kernel_rfl) (by kernel_rfl) (fun _ _ _ h => h) (Or.inl ⟨by rfl, ?_⟩) hS ?_
        rotate_left
        focus (intro wS hSw; (try dsimp only at hSw); go_simp; (try with_reducible rfl); (try (first | (rw [if_pos (by omega)]; (try go_simp); (try with_reducible rfl)) | (rw [if_neg (by omega)]; (try go_simp); (try with_reducible rfl)))))
        try simp only [Act.put, List.setIfInBounds_toArray, List.set_cons_zero, List.set_cons_succ]
        refine wpAnyR_takeQ (i := 9) (v := ?_) (some 36) rfl rfl (by kernel_rfl) (by kernel_rfl) (by kernel_rfl) (by kernel_rfl) (fun _ _ _ h => h) (Or.inl ⟨by rfl, ?_⟩) ?_
        rotate_left
        focus (intro wS hSw; (try dsimp only at hSw); go_simp; (try with_reducible rfl); (try (first | (rw [if_pos (by omega)]; (try go_simp); (try with_reducible rfl)) | (rw [if_neg (by omega)]; (try go_simp); (try with_reducible rfl)))))
        try simp only [Act.put, List.setIfInBounds_toArray, List.set_cons_zero, List.set_cons_succ]
        refine wpAnyR_takeQ (i := 10) (v := ?_) (some 37) rfl rfl (by kernel_rfl) (by kernel_rfl) (by kernel_rfl) (by kernel_rfl) (fun _ _ _ h => h) (Or.inl ⟨by rfl, ?_⟩) ?_
        rotate_left
        focus (intro wS hSw; (try dsimp only at hSw); go_simp; (try with_reducible rfl); (try (first | (rw [if_pos (by omega)]; (try go_simp); (try with_reducible rfl)) | (rw [if_neg (by omega)]; (try go_simp); (try with_reducible rfl)))))
        try simp only [Act.put, List.setIfInBounds_toArray, List.set_cons_zero, List.set_cons_succ]
        refine wpAnyR_take (i := 11) (v := ?_) [14, 15, 16, 17] (some 38) rfl rfl (by kernel_rfl) (by kernel_rfl) (by kernel_rfl) (by kernel_rfl) (by kernel_rfl) (by kernel_rfl) (by kernel_rfl) (fun _ _ _ h => h) (Or.inl ⟨by rfl, ?_⟩) hS ?_
        rotate_left
        focus (intro wS hSw; (try dsimp only at hSw); go_simp; (try with_reducible rfl); (try (first | (rw [if_pos (by omega)]; (try go_simp); (try with_reducible rfl)) | (rw [if_neg (by omega)]; (try go_simp); (try with_reducible rfl)))))
        try simp only [Act.put, List.setIfInBounds_toArray, List.set_cons_zero, List.set_cons_succ]
        refine wpAnyR_takeQ (i := 12) (v := ?_) (some 39) rfl rfl (by kernel_rfl) (by kernel_rfl) (by kernel_rfl) (by kernel_rfl) (fun _ _ _ h => h) (Or.inl ⟨by rfl, ?_⟩) ?_
        rotate_left
        focus (intro wS hSw; (try dsimp only at hSw); go_simp; (try with_reducible rfl); (try (first | (rw [if_pos (by omega)]; (try go_simp); (try with_reducible rfl)) | (rw [if_neg (by omega)]; (try go_simp); (try with_reducible rfl)))))
        try simp only [Act.put, List.setIfInBounds_toArray, List.set_cons_zero, List.set_cons_succ]
        refine wpAnyR_takeQ (i := 13) (v := ?_) (some 40) rfl rfl (by kernel_rfl) (by kernel_rfl) (by kernel_rfl) (by kernel_rfl) (fun _ _ _ h => h) (Or.inl ⟨by rfl, ?_⟩) ?_
        rotate_left
        focus (intro wS hSw; (try dsimp only at hSw); go_simp; (try with_reducible rfl); (try (first | (rw [if_pos (by omega)]; (try go_simp); (try with_reducible rfl)) | (rw [if_neg (by omega)]; (try go_simp); (try with_reducible rfl)))))
        try simp only [Act.put, List.setIfInBounds_toArray, List.set_cons_zero, List.set_cons_succ]
        refine wpAnyR_takeQ (i := 14) (v := ?_) (some 41) rfl rfl (by kernel_rfl) (by kernel_rfl) (by kernel_rfl) (by kernel_rfl) (fun _ _ _ h => h) (Or.inl ⟨by rfl, ?_⟩) ?_
        rotate_left
        focus (intro wS hSw; (try dsimp only at hSw); go_simp; (try with_reducible rfl); (try (first | (rw [if_pos (by omega)]; (try go_simp); (try with_reducible rfl)) | (rw [if_neg (by omega)]; (try go_simp); (try with_reducible rfl)))))
        try simp only [Act.put, List.setIfInBounds_toArray, List.set_cons_zero, List.set_cons_succ]
        refine wpAnyR_take (i := 15) (v := ?_) [16, 17] (some 42) rfl rfl (by kernel_rfl) (by kernel_rfl) (by kernel_rfl) (by kernel_rfl) (by kernel_rfl) (by kernel_rfl) (by kernel_rfl) (fun _ _ _ h => h) (Or.inl ⟨by rfl, ?_⟩) hS ?_
        rotate_left
        focus (intro wS hSw; (try dsimp only at hSw); go_simp; (try with_reducible rfl); (try (first | (rw [if_pos (by omega)]; (try go_simp); (try with_reducible rfl)) | (rw [if_neg (by omega)]; (try go_simp); (try with_reducible rfl)))))
        try simp only [Act.put, List.setIfInBounds_toArray, List.set_cons_zero, List.set_cons_succ]
        refine wpAnyR_takeQ (i := 16) (v := ?_) (some 43) rfl rfl (by kernel_rfl) (by kernel_rfl) (by kernel_rfl) (by kernel_rfl) (fun _ _ _ h => h) (Or.inl ⟨by rfl, ?_⟩) ?_
        rotate_left
        focus (intro wS hSw; (try dsimp only at hSw); go_simp; (try with_reducible rfl); (try (first | (rw [if_pos (by omega)]; (try go_simp); (try with_reducible rfl)) | (rw [if_neg (by omega)]; (try go_simp); (try with_reducible rfl)))))
        try simp only [Act.put, List.setIfInBounds_toArray, List.set_cons_zero, List.set_cons_succ]
        refine wpAnyR_n1 (i := 17) rfl (by kernel_rfl) ?_
        intro K' hK
        rw [if_pos (by rfl)]
        simp only [List.getElem_toArray, List.getElem_cons_succ, List.getElem_cons_zero]
        go_wp2_with fail
        refine hK.out _ _ (.inl rfl) ?_
        clear hK hS
        refine wpAnyR_done (by kernel_rfl) ?_ _
        go_wp2_with fail
        go_ret
        rw [HV.out]
        have hd1 := HH.out.grew (Grew.refl w).drew
        exact ⟨rfl, q, hd1.store_st HVS.out hkl HSZ.out, Foot'.refl _ _, ((Turned.refl q.feet w).drew.setCell (p := ⟨gs, k, none⟩) (fun _ => .inr (.inr (.inl (by rw [HVS.out]; rfl)))) _)⟩
omit h in
theorem conv_back (W : World) (g cap : Nat) (u : ByteArray) (hu : u.size = 140) (hc : ∀ j (hj : j < u.size), W.cell? ⟨g, j, none⟩ = some (.int .u8 (u[j].toNat : Int))) : (convert 70 9 (.slice (some ⟨g, 0, none⟩) 140 cap)).run Try.prog W = .ok (.string u) W := by
  have h := run_convert_bytes_back (P := Try.prog) W 70 9 5 ⟨g, 0, none⟩ cap u.data.toList Try.underlying70 Try.underlying5 Try.underlying9 (fun j hj => by
    have : (⟨g, 0, none⟩ : Addr).add j = ⟨g, j, none⟩ := by unfold Addr.add; split <;> simp_all
    rw [this]
    exact hc j (by rw [Array.length_toList] at hj; exact hj))
  have hl : u.data.toList.length = 140 := by rw [Array.length_toList]; exact hu
  rw [hl] at h
  exact h
set_option maxRecDepth 100000 in
set_option maxHeartbeats 4000000 in
theorem damage_any (sec i : Int) (m : UInt8) (hs : okI sec) (hi : okI i) : Calls Try.prog 44 #[.pointer (some ⟨q.x, 0, none⟩), .int .i64 sec, .int .i64 i, .int .u8 (m.toNat : Int)] w fun er w' => er = .returned (.int .i64 (damageD D sec i m).2) ∧ Did w w' q (damageD D sec i m).1 := by
  have HH := Lib.hid h
  unfold okI at hs hi
  cases ht : thereD D sec with
  | false =>
    have HV := Lib.hid (show damageD D sec i m = (D, 2) from by unfold damageD; rw [if_pos (.inl ht)])
    have HT := Lib.hid (there_any h sec false ht)
    clear h ht
    go_enter Try.func44, Try.ntmps44
    go_wp2_with fail
    refine HT.out.mono ?_
    rintro er w1 ⟨rfl, rfl⟩
    go_wp2_with fail
    go_ret
    rw [HV.out]
    exact ⟨rfl, Did.same HH.out (Grew.refl _)⟩
  | true =>
    have h0 := of_decide_eq_true ht
    obtain ⟨k, rfl⟩ : ∃ k : Nat, sec = (k : Int) := ⟨sec.toNat, by omega⟩
    have HT := Lib.hid (there_any h k true ht)
    have hkl : k < D.st.length := by omega
    by_cases h1 : i < 0
    · have HV := Lib.hid (show damageD D k i m = (D, 2) from by unfold damageD; rw [if_pos (.inr (.inl h1))])
      clear h ht
      go_enter Try.func44, Try.ntmps44
      go_wp2_with fail
      refine HT.out.mono ?_
      rintro er w1 ⟨rfl, rfl⟩
      go_wp2_with fail
      go_ret
      rw [HV.out]
      exact ⟨rfl, Did.same HH.out (Grew.refl _)⟩
    · by_cases h2 : 140 ≤ i
      · have HV := Lib.hid (show damageD D k i m = (D, 2) from by unfold damageD; rw [if_pos (.inr (.inr h2))])
        clear h ht
        go_enter Try.func44, Try.ntmps44
        go_wp2_with fail
        refine HT.out.mono ?_
        rintro er w1 ⟨rfl, rfl⟩
        go_wp2_with fail
        go_ret
        rw [HV.out]
        exact ⟨rfl, Did.same HH.out (Grew.refl _)⟩
      · by_cases hm : m = 0
        · have HV := Lib.hid (show damageD D k i m = (D, 1) from by unfold damageD; rw [if_neg (by rw [ht]; simp; omega), if_pos hm])
          have hmi : (m.toNat : Int) = 0 := by rw [hm]; rfl
          clear h ht hm
          go_enter Try.func44, Try.ntmps44
          go_wp2_with fail
          refine HT.out.mono ?_
          rintro er w1 ⟨rfl, rfl⟩
          go_wp2_with fail
          go_ret
          rw [HV.out]
          exact ⟨rfl, Did.same HH.out (Grew.refl _)⟩
        · have HV := Lib.hid (show damageD D k i m = ({ D with st := D.st.set k (xorB (D.at k) i.toNat m) }, 0) from by unfold damageD; rw [if_neg (by rw [ht]; simp; omega), if_neg hm, Int.toNat_natCast])
          have hmi : ((m.toNat : Int) == 0) = false := beq_eq_false_iff_ne.2 (fun e => hm (UInt8.toNat_inj.1 (by show m.toNat = 0; omega)))
          obtain ⟨j, rfl⟩ : ∃ j : Nat, i = (j : Int) := ⟨i.toNat, by omega⟩
          rw [Int.toNat_natCast] at HV
          obtain ⟨gs, cs, hvs, hgs, hs1, hs2, hs3⟩ := h.st_form
          have hk := h.blk
          rw [hvs] at hk
          have hxl := hk.lt
          have x0 := hk.cell 0
          have y0 := h.st_cell hvs hkl
          have hsz := at_size h.ok hkl
          have HVS := Lib.hid hvs
          obtain ⟨wb, cap, hcv, hgb, hzb, hcb, hfb⟩ := bytes_open w (D.at k)
          rw [hsz] at hcv
          generalize D.at k = a at *
          have hja : j < a.size := by omega
          have cj := hcb j hja
          have hxj := xor8 a[j] m
          have fj := hfb j hja
          have x0b := (hgb.cellEq _ _ hxl).trans x0
          have HGB := Lib.hid hgb
          have hst := (h.grew hgb).st
          rw [hvs] at hst
          have y0b := (hgb.cellEq _ _ hgs).trans y0
          have f0b := hst.frozen k
          have hxs := xorB_size a j m
          have hcv2 := conv_back (wb.setCell ⟨w.heap.size, j, none⟩ (.int .u8 ((a[j].toNat ^^^ m.toNat : Nat) : Int))).drew w.heap.size cap (xorB a j m) (by rw [hxs, hsz]) (fun i hi => by
            have hia : i < a.size := by rw [← hxs]; exact hi
            show (wb.setCell ⟨w.heap.size, j, none⟩ _).cell? _ = _
            by_cases hij : i = j
            · subst hij
              rw [World.cell?_setCell_same' _ _ _ (by rw [cj]; rfl)]
              congr 3
              rw [← UInt8.toNat_xor]
              show (a[i] ^^^ m).toNat = ((xorB a i m).data[i]).toNat
              congr 1
              exact (Array.getElem_modify_self (fun b => b ^^^ m) ..).symm
            · have hne : (wb.setCell ⟨w.heap.size, j, none⟩ (.int .u8 ((a[j].toNat ^^^ m.toNat : Nat) : Int))).cell? ⟨w.heap.size, i, none⟩ = wb.cell? ⟨w.heap.size, i, none⟩ := by
                refine World.cell?_setCell_other _ _ _ _ ?_
                intro e
                injection e with _ e _
                exact hij e.symm
              rw [hne, hcb i hia]
              congr 3
              show (a.data[i]).toNat = ((xorB a j m).data[i]).toNat
              congr 1
              exact (Array.getElem_modify_of_ne (Ne.symm hij) ..).symm)
          have hz3 : wb.heap.size = w.heap.size + 1 := hzb
          have hgsb : gs < wb.heap.size := by omega
          have hgw : ¬ gs = w.heap.size := by omega
          have hxw : ¬ q.x = w.heap.size := by omega
          have hxlb : q.x < wb.heap.size := by omega
          have hja' : (j : Int) < 140 := by omega
          have hj0 : (0 : Int) ≤ (j : Int) := by omega
          have HXS := Lib.hid hxs
          clear h ht hvs hk hgb hcb hfb hst hzb hxs
          generalize a[j] = aj at *
          go_enter Try.func44, Try.ntmps44
          go_wp2_with fail
          refine HT.out.mono ?_
          rintro er w1 ⟨rfl, rfl⟩
          go_wp2_with fail
          obtain ⟨wc, hwc⟩ : ∃ wc, wc = wb.setCell ⟨w.heap.size, j, none⟩ (.int .u8 ((aj.toNat ^^^ m.toNat : Nat) : Int)) := ⟨_, rfl⟩
          rw [← hwc] at hcv2 ⊢
          have hx0c : wc.cell? ⟨q.x, 0, none⟩ = some (.slice (some ⟨gs, 0, none⟩) D.st.length cs) := by rw [hwc]; exact (World.cell?_setCell_far _ _ _ _ (fun e => hxw e.symm)).trans x0b
          have hgc : Grew w wc := by rw [hwc]; exact HGB.out.setCell (Nat.le_refl _) _
          have hdc := HH.out.grew hgc
          have hstc := hdc.st
          rw [HVS.out] at hstc
          have f0c := hstc.frozen k
          have y0c := (hgc.cellEq _ _ hgs).trans y0
          have hgsc : gs < wc.heap.size := by have := hgc.size; omega
          have hxlc : q.x < wc.heap.size := by have := hgc.size; omega
          have HDC := Lib.hid hdc
          have HGC := Lib.hid hgc
          clear hwc hdc hgc hstc x0b y0b f0b cj fj x0 y0 hcv
          refine wp_region_R [8] (fun w' : World => w'.cell? ⟨q.x, 0, none⟩ = some (.slice (some ⟨gs, 0, none⟩) D.st.length cs) ∧ (convert 70 9 (.slice (some ⟨w.heap.size, 0, none⟩) 140 cap)).run Try.prog w' = .ok (.string (xorB a j m)) w') (by kernel_rfl) ?_
          have hS := (show (fun w' : World => w'.cell? ⟨q.x, 0, none⟩ = some (.slice (some ⟨gs, 0, none⟩) D.st.length cs) ∧ (convert 70 9 (.slice (some ⟨w.heap.size, 0, none⟩) 140 cap)).run Try.prog w' = .ok (.string (xorB a j m)) w') wc.drew from ⟨hx0c, hcv2⟩)
          refine wpAnyR_takeQ (i := 0) (v := ?_) (some 39) rfl rfl (by kernel_rfl) (by kernel_rfl) (by kernel_rfl) (by kernel_rfl) (fun _ _ _ h => h) (Or.inl ⟨by rfl, ?_⟩) ?_
          rotate_left
          focus (intro wS hSw; (try dsimp only at hSw); go_simp; (try with_reducible rfl); (try (first | (rw [if_pos (by omega)]; (try go_simp); (try with_reducible rfl)) | (rw [if_neg (by omega)]; (try go_simp); (try with_reducible rfl)))))
          try simp only [Act.put, List.setIfInBounds_toArray, List.set_cons_zero, List.set_cons_succ]
          refine wpAnyR_take (i := 1) (v := ?_) [2, 3, 7, 8] (some 40) rfl rfl (by kernel_rfl) (by kernel_rfl) (by kernel_rfl) (by kernel_rfl) (by kernel_rfl) (by kernel_rfl) (by kernel_rfl) (fun _ _ _ h => h) (Or.inl ⟨by rfl, ?_⟩) hS ?_
          rotate_left
          focus (intro wS hSw; (try dsimp only at hSw); go_simp; (try with_reducible rfl); (try (first | (rw [if_pos (by omega)]; (try go_simp); (try with_reducible rfl)) | (rw [if_neg (by omega)]; (try go_simp); (try with_reducible rfl)))))
          try simp only [Act.put, List.setIfInBounds_toArray, List.set_cons_zero, List.set_cons_succ]
          refine wpAnyR_takeQ (i := 2) (v := ?_) (some 41) rfl rfl (by kernel_rfl) (by kernel_rfl) (by kernel_rfl) (by kernel_rfl) (fun _ _ _ h => h) (Or.inl ⟨by rfl, ?_⟩) ?_
          rotate_left
          focus (intro wS hSw; (try dsimp only at hSw); go_simp; (try with_reducible rfl); (try (first | (rw [if_pos (by omega)]; (try go_simp); (try with_reducible rfl)) | (rw [if_neg (by omega)]; (try go_simp); (try with_reducible rfl)))))
          try simp only [Act.put, List.setIfInBounds_toArray, List.set_cons_zero, List.set_cons_succ]
          refine wpAnyR_take (i := 3) (v := ?_) [7, 8] (some 42) rfl rfl (by kernel_rfl) (by kernel_rfl) (by kernel_rfl) (by kernel_rfl) (by kernel_rfl) (by kernel_rfl) (by kernel_rfl) (fun _ _ _ h => h) (Or.inl ⟨by rfl, ?_⟩) hS ?_
          rotate_left
          focus (intro wS hSw; (try dsimp only at hSw); go_simp; (try with_reducible rfl); (try (first | (rw [if_pos (by omega)]; (try go_simp); (try with_reducible rfl)) | (rw [if_neg (by omega)]; (try go_simp); (try with_reducible rfl)))))
          try simp only [Act.put, List.setIfInBounds_toArray, List.set_cons_zero, List.set_cons_succ]
          refine wpAnyR_takeQ (i := 4) (v := ?_) (some 43) rfl rfl (by kernel_rfl) (by kernel_rfl) (by kernel_rfl) (by kernel_rfl) (fun _ _ _ h => h) (Or.inl ⟨by rfl, ?_⟩) ?_
          rotate_left
          focus (intro wS hSw; (try dsimp only at hSw); go_simp; (try with_reducible rfl); (try (first | (rw [if_pos (by omega)]; (try go_simp); (try with_reducible rfl)) | (rw [if_neg (by omega)]; (try go_simp); (try with_reducible rfl)))))
          try simp only [Act.put, List.setIfInBounds_toArray, List.set_cons_zero, List.set_cons_succ]
          refine wpAnyR_takeQ (i := 5) (v := ?_) (some 44) rfl rfl (by kernel_rfl) (by kernel_rfl) (by kernel_rfl) (by kernel_rfl) (fun _ _ _ h => h) (Or.inl ⟨by rfl, ?_⟩) ?_
          rotate_left
          focus (intro wS hSw; (try dsimp only at hSw); go_simp; (try with_reducible rfl); (try (first | (rw [if_pos (by omega)]; (try go_simp); (try with_reducible rfl)) | (rw [if_neg (by omega)]; (try go_simp); (try with_reducible rfl)))))
          try simp only [Act.put, List.setIfInBounds_toArray, List.set_cons_zero, List.set_cons_succ]
          refine wpAnyR_take (i := 6) (v := ?_) [7, 8] (some 45) rfl rfl (by kernel_rfl) (by kernel_rfl) (by kernel_rfl) (by kernel_rfl) (by kernel_rfl) (by kernel_rfl) (by kernel_rfl) (fun _ _ _ h => h) (Or.inl ⟨by rfl, ?_⟩) hS ?_
          rotate_left
          focus (intro wS hSw; (try dsimp only at hSw); go_simp; (try with_reducible rfl); (try (first | (rw [if_pos (by omega)]; (try go_simp); (try with_reducible rfl)) | (rw [if_neg (by omega)]; (try go_simp); (try with_reducible rfl)))))
          try simp only [Act.put, List.setIfInBounds_toArray, List.set_cons_zero, List.set_cons_succ]
          refine wpAnyR_takeQ (i := 7) (v := ?_) (some 46) rfl rfl (by kernel_rfl) (by kernel_rfl) (by kernel_rfl) (by kernel_rfl) (fun _ _ _ h => h) (Or.inl ⟨by rfl, ?_⟩) ?_
          rotate_left
          focus (intro wS hSw; (try dsimp only at hSw); go_simp; (try with_reducible rfl); (try (first | (rw [if_pos (by omega)]; (try go_simp); (try with_reducible rfl)) | (rw [if_neg (by omega)]; (try go_simp); (try with_reducible rfl)))))
          try simp only [Act.put, List.setIfInBounds_toArray, List.set_cons_zero, List.set_cons_succ]
          refine wpAnyR_n1 (i := 8) rfl (by kernel_rfl) ?_
          intro K' hK
          rw [if_pos (by rfl)]
          simp only [List.getElem_toArray, List.getElem_cons_succ, List.getElem_cons_zero]
          go_wp2_with fail
          refine hK.out _ _ (.inl rfl) ?_
          clear hK hS
          refine wpAnyR_done (by kernel_rfl) ?_ _
          go_wp2_with fail
          go_ret
          rw [HV.out]
          have hd1 := HDC.out.grew (Grew.refl wc).drew
          exact ⟨rfl, q, hd1.store_st HVS.out hkl (by rw [HXS.out, hsz]), Foot'.refl _ _, (((HGC.out.turned q.feet).drew).setCell (p := ⟨gs, k, none⟩) (fun _ => .inr (.inr (.inl (by rw [HVS.out]; rfl)))) _)⟩
end
end Go.Proofs.Ytklojcgbokmkhaa
