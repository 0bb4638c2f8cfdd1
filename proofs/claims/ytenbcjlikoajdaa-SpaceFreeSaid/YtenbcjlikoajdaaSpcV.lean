/- Chapter 6: Fragments, on both sides. -/
import Derived.Test.YtenbcjlikoajdaaSpcU
namespace Go.Proofs.Ytenbcjlikoajdaa
set_option linter.unusedVariables false
set_option linter.unusedSimpArgs false
set_option linter.unusedSectionVars false
open Go.RowKit
theorem ret_two {a b c d : Int} (h : a = b) (h' : c = d) : Ending.returned (.tuple #[.int .i64 a, .int .i64 c]) = .returned (.tuple #[.int .i64 b, .int .i64 d]) := by rw [h, h']
theorem tdiv_wrap (a b : Int) (h : a.natAbs ≤ 100000000) : IntKind.i64.wrap (a.tdiv b) = a.tdiv b := by
  have h1 : (a.tdiv b).natAbs ≤ a.natAbs := by rw [Int.natAbs_tdiv]; exact Nat.div_le_self _ _
  rw [IntKind.wrap_i64]; omega
section
variable {A : Option Addr} {c m : Nat} {l : List (Int × Int)} {w : World}
set_option maxRecDepth 100000 in
set_option maxHeartbeats 4000000 in
theorem frag_val (hn : m = l.length) (hl : l.length ≤ 1000) (hr : RunsAt w w.heap.size A l) (a b : Int) (h : fragS (memS l) = (a, b)) :
    Calls Try.prog 30 #[.slice A m c] w fun e w' => e = .returned (.tuple #[.int .i64 a, .int .i64 b]) ∧ Grew w w' := by
  subst hn
  obtain ⟨k, hk⟩ : ∃ k, ints (normS (memS l)) = k := ⟨_, rfl⟩
  have hkl : k.length ≤ 128 := by rw [← hk, ints_len]; exact normS_len _
  have hkn : ((normS (memS l)).length : Int) = (k.length : Int) := by rw [← hk, ints_len]
  have hsz : sizeS k = cntL (normS (memS l)) := by rw [← hk]; exact sizeS_ints _ (normS_bd _)
  have hcl := cntL_le _ (normS_bd (memS l))
  have hml := maxL_le _ (normS_bd (memS l))
  have hnl := normS_len (memS l)
  have hmk : maxL (normS (memS k)) = maxL (normS (memS l)) := by rw [← hk, normS_norm]
  unfold fragS at h
  rw [hkn] at h
  generalize cntL (normS (memS l)) = s at *
  generalize maxL (normS (memS l)) = mx at *
  have HK := Lib.hid hk
  have HS := Lib.hid hsz
  have HM := Lib.hid (show ((maxL (normS (memS k)) : Nat) : Int) = (mx : Int) from by rw [hmk])
  have hs2 : s ≤ 16384 := by omega
  clear hk hsz hmk hkn hcl
  have hG := Grew.refl w
  by_cases h0 : s = 0
  · rw [if_pos h0] at h
    injection h with ha hb
    subst ha; subst hb; subst h0
    go_enter Try.func30, Try.ntmps30
    go_wp2_with fail
    refine (normal_val _ _ _ _ _ rfl (by omega) hr k HK.out).mono ?_
    rintro e ws ⟨A3, c3, rfl, r3, gs⟩
    replace hG := hG.trans gs
    clear gs
    go_wp2_with fail
    refine (size_val rfl (by omega) r3 0 HS.out).mono ?_
    rintro e ws ⟨rfl, gs⟩
    replace hG := hG.trans gs
    clear gs
    go_wp2_with fail
    go_returns
    exact ⟨rfl, hG⟩
  · rw [if_neg h0] at h
    injection h with ha hb
    have HB := Lib.hid hb
    have hsb : ((s : Int) == 0) = false := beq_eq_false_iff_ne.2 (by omega)
    have hs0 : 0 < s := by omega
    have hmx : (mx : Int) ≤ 128 := by omega
    have hw1 : IntKind.i64.wrap ((s : Int) - (mx : Int)) = (s : Int) - (mx : Int) := by rw [IntKind.wrap_i64]; omega
    have hw2 : IntKind.i64.wrap (100 * ((s : Int) - (mx : Int))) = 100 * ((s : Int) - (mx : Int)) := by rw [IntKind.wrap_i64]; omega
    have hw3 := tdiv_wrap (100 * ((s : Int) - (mx : Int))) (s : Int) (by omega)
    subst ha
    clear hb
    go_enter Try.func30, Try.ntmps30
    go_wp2_with fail
    refine (normal_val _ _ _ _ _ rfl (by omega) hr k HK.out).mono ?_
    rintro e ws ⟨A3, c3, rfl, r3, gs⟩
    replace hG := hG.trans gs
    clear gs
    go_wp2_with fail
    refine (size_val rfl (by omega) r3 s HS.out).mono ?_
    rintro e ws ⟨rfl, gs⟩
    replace r3 := r3.hold gs
    replace hG := hG.trans gs
    clear gs
    go_wp2_with fail
    refine wp_region_R [] (fun _ : World => True) (by kernel_rfl) ?_
    have hS : (fun _ : World => True) ws.drew := trivial
    refine wpAnyR_takeQ (i := 0) (v := ?_) (some 12) rfl rfl (by kernel_rfl) (by kernel_rfl) (by kernel_rfl) (by kernel_rfl) (fun _ _ _ h => h) (Or.inl ⟨by rfl, ?_⟩) ?_
    rotate_left
    focus (intro wS hSw; (try dsimp only at hSw); go_simp; (try with_reducible rfl); (try (first | (rw [if_pos (by omega)]; (try go_simp); (try with_reducible rfl)) | (rw [if_neg (by omega)]; (try go_simp); (try with_reducible rfl)))))
    try simp only [Act.put, List.setIfInBounds_toArray, List.set_cons_zero, List.set_cons_succ]
    refine wpAnyR_take (i := 1) (v := ?_) [9, 10] (some 13) rfl rfl (by kernel_rfl) (by kernel_rfl) (by kernel_rfl) (by kernel_rfl) (by kernel_rfl) (by kernel_rfl) (by kernel_rfl) (fun _ _ _ h => h) (Or.inl ⟨by rfl, ?_⟩) hS ?_
    rotate_left
    focus (intro wS hSw; (try dsimp only at hSw); go_simp; (try with_reducible rfl); (try (first | (rw [if_pos (by omega)]; (try go_simp); (try with_reducible rfl)) | (rw [if_neg (by omega)]; (try go_simp); (try with_reducible rfl)))))
    try simp only [Act.put, List.setIfInBounds_toArray, List.set_cons_zero, List.set_cons_succ]
    refine wpAnyR_takeQ (i := 2) (v := ?_) (some 14) rfl rfl (by kernel_rfl) (by kernel_rfl) (by kernel_rfl) (by kernel_rfl) (fun _ _ _ h => h) (Or.inl ⟨by rfl, ?_⟩) ?_
    rotate_left
    focus (intro wS hSw; (try dsimp only at hSw); go_simp; (try with_reducible rfl); (try (first | (rw [if_pos (by omega)]; (try go_simp); (try with_reducible rfl)) | (rw [if_neg (by omega)]; (try go_simp); (try with_reducible rfl)))))
    try simp only [Act.put, List.setIfInBounds_toArray, List.set_cons_zero, List.set_cons_succ]
    refine wpAnyR_takeQ (i := 3) (v := ?_) (some 15) rfl rfl (by kernel_rfl) (by kernel_rfl) (by kernel_rfl) (by kernel_rfl) (fun _ _ _ h => h) (Or.inl ⟨by rfl, ?_⟩) ?_
    rotate_left
    focus (intro wS hSw; (try dsimp only at hSw); go_simp; (try with_reducible rfl); (try (first | (rw [if_pos (by omega)]; (try go_simp); (try with_reducible rfl)) | (rw [if_neg (by omega)]; (try go_simp); (try with_reducible rfl)))))
    try simp only [Act.put, List.setIfInBounds_toArray, List.set_cons_zero, List.set_cons_succ]
    refine wpAnyR_takeQ (i := 7) (v := ?_) (some 19) rfl rfl (by kernel_rfl) (by kernel_rfl) (by kernel_rfl) (by kernel_rfl) (fun _ _ _ h => h) (Or.inl ⟨by rfl, ?_⟩) ?_
    rotate_left
    focus (intro wS hSw; (try dsimp only at hSw); go_simp; (try with_reducible rfl); (try (first | (rw [if_pos (by omega)]; (try go_simp); (try with_reducible rfl)) | (rw [if_neg (by omega)]; (try go_simp); (try with_reducible rfl)))))
    try simp only [Act.put, List.setIfInBounds_toArray, List.set_cons_zero, List.set_cons_succ]
    refine wpAnyR_n1 (i := 4) rfl (by kernel_rfl) ?_
    intro K' hK
    rw [if_pos (by rfl)]
    simp only [List.getElem_toArray, List.getElem_cons_succ, List.getElem_cons_zero]
    go_wp2_with fail
    refine (largest_val (w := ws.drew) rfl (by omega) r3 (mx : Int) HM.out).mono ?_
    rintro e w4 ⟨rfl, g4⟩
    go_wp2_with fail
    refine hK.out _ _ (.inr (fun _ => trivial)) ?_
    clear hK hS
    have hS : (fun _ : World => True) w4 := trivial
    refine wpAnyR_takeQ (i := 5) (v := ?_) (some 17) rfl rfl (by kernel_rfl) (by kernel_rfl) (by kernel_rfl) (by kernel_rfl) (fun _ _ _ h => h) (Or.inl ⟨by rfl, ?_⟩) ?_
    rotate_left
    focus (intro wS hSw; (try dsimp only at hSw); go_simp; (try with_reducible rfl); (try (first | (rw [if_pos (by omega)]; (try go_simp); (try with_reducible rfl)) | (rw [if_neg (by omega)]; (try go_simp); (try with_reducible rfl)))))
    try simp only [Act.put, List.setIfInBounds_toArray, List.set_cons_zero, List.set_cons_succ]
    refine wpAnyR_takeQ (i := 6) (v := ?_) (some 18) rfl rfl (by kernel_rfl) (by kernel_rfl) (by kernel_rfl) (by kernel_rfl) (fun _ _ _ h => h) (Or.inl ⟨by rfl, ?_⟩) ?_
    rotate_left
    focus (intro wS hSw; (try dsimp only at hSw); go_simp; (try with_reducible rfl); (try (first | (rw [if_pos (by omega)]; (try go_simp); (try with_reducible rfl)) | (rw [if_neg (by omega)]; (try go_simp); (try with_reducible rfl)))))
    try simp only [Act.put, List.setIfInBounds_toArray, List.set_cons_zero, List.set_cons_succ]
    refine wpAnyR_takeQ (i := 8) (v := ?_) (some 20) rfl rfl (by kernel_rfl) (by kernel_rfl) (by kernel_rfl) (by kernel_rfl) (fun _ _ _ h => h) (Or.inl ⟨by rfl, ?_⟩) ?_
    rotate_left
    focus (intro wS hSw; (try dsimp only at hSw); go_simp; (try with_reducible rfl); (try (first | (rw [if_pos (by omega)]; (try go_simp); (try with_reducible rfl)) | (rw [if_neg (by omega)]; (try go_simp); (try with_reducible rfl)))))
    try simp only [Act.put, List.setIfInBounds_toArray, List.set_cons_zero, List.set_cons_succ]
    refine wpAnyR_takeQ (i := 9) (v := ?_) (some 2) rfl rfl (by kernel_rfl) (by kernel_rfl) (by kernel_rfl) (by kernel_rfl) (fun _ _ _ h => h) (Or.inl ⟨by rfl, ?_⟩) ?_
    rotate_left
    focus (intro wS hSw; (try dsimp only at hSw); go_simp; (try with_reducible rfl); (try (first | (rw [if_pos (by omega)]; (try go_simp); (try with_reducible rfl)) | (rw [if_neg (by omega)]; (try go_simp); (try with_reducible rfl)))))
    try simp only [Act.put, List.setIfInBounds_toArray, List.set_cons_zero, List.set_cons_succ]
    refine wpAnyR_takeQ (i := 10) (v := ?_) (some 3) rfl rfl (by kernel_rfl) (by kernel_rfl) (by kernel_rfl) (by kernel_rfl) (fun _ _ _ h => h) (Or.inl ⟨by rfl, ?_⟩) ?_
    rotate_left
    focus (intro wS hSw; (try dsimp only at hSw); go_simp; (try with_reducible rfl); (try (first | (rw [if_pos (by omega)]; (try go_simp); (try with_reducible rfl)) | (rw [if_neg (by omega)]; (try go_simp); (try with_reducible rfl)))))
    try simp only [Act.put, List.setIfInBounds_toArray, List.set_cons_zero, List.set_cons_succ]
    refine wpAnyR_done (by kernel_rfl) ?_ _
    go_wp2_with fail
    go_returns
    exact ⟨ret_two rfl HB.out, hG.drew.trans g4⟩
set_option maxRecDepth 100000 in
set_option maxHeartbeats 4000000 in
theorem rfrag_val (hn : m = l.length) (hl : l.length ≤ 1000) (hr : RunsAt w w.heap.size A l) (a b : Int) (h : fragS (memS l) = (a, b)) :
    Calls Try.prog 31 #[.slice A m c] w fun e w' => e = .returned (.tuple #[.int .i64 a, .int .i64 b]) ∧ Grew w w' := by
  subst hn
  have HC := Lib.hid (rsorted_any A c l w w.heap.size (Nat.le_refl _) (by omega) hr)
  have hbd := sort_bd (memS l)
  have hNl := sort_len (memS l)
  have hh := maxL_head (memS l)
  have hpm := sortS_perm _ (normS_cnt (memS l)) (normS_asc (memS l))
  have hcl := cntL_le _ (normS_bd (memS l))
  have hnl := normS_len (memS l)
  unfold fragS at h
  rw [hpm.length_eq, cntL_perm hpm] at h
  rw [cntL_perm hpm] at hcl
  have hml := maxL_le _ (normS_bd (memS l))
  generalize maxL (normS (memS l)) = mx at *
  generalize sortS (normS (memS l)) = M at *
  have hs2 : cntL M ≤ 16384 := by omega
  have HBD := Lib.hid hbd
  clear hr hbd hpm hcl hnl
  go_enter Try.func31, Try.ntmps31
  go_wp2_with fail
  refine HC.out.mono ?_
  rintro e w1 ⟨v, rfl, hown, hG⟩
  obtain ⟨A', c', hv, hr', _, _, _⟩ := own_runs2 hown (fun r hr => Nat.le_trans (HBD.out r hr) (by omega))
  subst hv
  have HR := Lib.hid hr'
  have HH := Lib.hid hh
  have H := Lib.hid h
  clear hown hr' HC hh h
  go_wp2_with fail
  go_loopg [5, 6] M.length (fun gk nv i wr => w1 = wr ∧ ∃ k : Nat, k ≤ M.length ∧ gk = M.length - k ∧ i = .int .i64 (k : Int) ∧ nv = .int .i64 ((cntL (M.take k) : Nat) : Int))
  case atStart => exact ⟨rfl, 0, by omega, by omega, rfl, by simp [cntL]⟩
  case round =>
    obtain ⟨rfl, k, hk, hgk, rfl, rfl⟩ := hrel
    have HGK := Lib.hid hgk
    clear hgk
    have hcl := cntL_le (M.take k) (fun r hr => HBD.out r (List.mem_of_mem_take hr))
    have htk : (M.take k).length ≤ 128 := Nat.le_trans (List.length_take_le _ _) (by omega)
    by_cases hlt : k < M.length
    · obtain ⟨b', off, rfl, hb, x0, x1⟩ := runs_nat HR.out hlt
      have HCN := Lib.hid (cntL_snoc M k hlt)
      have hrb := HBD.out _ (List.getElem_mem hlt)
      generalize M[k] = r at *
      obtain ⟨rf, rc⟩ := r
      simp only at x0 x1 hrb
      go_wp2_with fail
      go_roundg (M.length - (k + 1))
      case measure => rw [HGK.out]; omega
      case rel => exact ⟨rfl, k + 1, by omega, by omega, by go_num, by rw [HCN.out]; go_num⟩
    · obtain rfl : k = M.length := by omega
      rw [List.take_length]
      clear hcl htk
      obtain ⟨s, hs⟩ : ∃ s, cntL M = s := ⟨_, rfl⟩
      rw [hs] at hs2 ⊢
      by_cases h0 : s = 0
      · have h := H.out
        rw [hs, if_pos h0] at h
        injection h with ha hb
        subst ha; subst hb; subst h0
        clear hs
        go_wp2_with fail
        go_returns
        exact ⟨rfl, hG⟩
      · have h := H.out
        rw [hs, if_neg h0] at h
        injection h with ha hb
        have HB := Lib.hid hb
        have HA := Lib.hid ha
        rcases HH.out with ⟨hM, _⟩ | ⟨⟨hf, hc⟩, t, hM, hmx⟩
        · rw [hM] at hs; exact absurd hs.symm h0
        · simp only at hmx
          subst hmx
          have hM0 : 0 < M.length := by rw [hM, List.length_cons]; omega
          have hMe : M[0] = (hf, mx) := by simp [hM]
          obtain ⟨b', off, rfl, hb', x0, x1⟩ := runs_nat HR.out hM0
          have x1' : w1.cell? ⟨b', off + 1, none⟩ = some (.int .i64 (mx : Int)) := by rw [hMe] at x1; simpa using x1
          have hsb : ((s : Int) == 0) = false := beq_eq_false_iff_ne.2 (by omega)
          have hs0 : 0 < s := by omega
          have hmx : (mx : Int) ≤ 128 := by omega
          have hw1 : IntKind.i64.wrap ((s : Int) - (mx : Int)) = (s : Int) - (mx : Int) := by rw [IntKind.wrap_i64]; omega
          have hw2 : IntKind.i64.wrap (100 * ((s : Int) - (mx : Int))) = 100 * ((s : Int) - (mx : Int)) := by rw [IntKind.wrap_i64]; omega
          have hw3 := tdiv_wrap (100 * ((s : Int) - (mx : Int))) (s : Int) (by omega)
          clear hs ha hb hM hMe x0 x1
          go_wp2_with fail
          refine wp_region_R [] (fun w' : World => w'.cell? ⟨b', off + 1, none⟩ = some (.int .i64 (mx : Int))) (by kernel_rfl) ?_
          have hS : (fun w' : World => w'.cell? ⟨b', off + 1, none⟩ = some (.int .i64 (mx : Int))) w1.drew := x1'
          refine wpAnyR_takeQ (i := 0) (v := ?_) (some 24) rfl rfl (by kernel_rfl) (by kernel_rfl) (by kernel_rfl) (by kernel_rfl) (fun _ _ _ h => h) (Or.inl ⟨by rfl, ?_⟩) ?_
          rotate_left
          focus (intro wS hSw; (try dsimp only at hSw); go_simp; (try with_reducible rfl); (try (first | (rw [if_pos (by omega)]; (try go_simp); (try with_reducible rfl)) | (rw [if_neg (by omega)]; (try go_simp); (try with_reducible rfl)))))
          try simp only [Act.put, List.setIfInBounds_toArray, List.set_cons_zero, List.set_cons_succ]
          refine wpAnyR_take (i := 1) (v := ?_) [11, 12] (some 25) rfl rfl (by kernel_rfl) (by kernel_rfl) (by kernel_rfl) (by kernel_rfl) (by kernel_rfl) (by kernel_rfl) (by kernel_rfl) (fun _ _ _ h => h) (Or.inl ⟨by rfl, ?_⟩) hS ?_
          rotate_left
          focus (intro wS hSw; (try dsimp only at hSw); go_simp; (try with_reducible rfl); (try (first | (rw [if_pos (by omega)]; (try go_simp); (try with_reducible rfl)) | (rw [if_neg (by omega)]; (try go_simp); (try with_reducible rfl)))))
          try simp only [Act.put, List.setIfInBounds_toArray, List.set_cons_zero, List.set_cons_succ]
          refine wpAnyR_takeQ (i := 2) (v := ?_) (some 26) rfl rfl (by kernel_rfl) (by kernel_rfl) (by kernel_rfl) (by kernel_rfl) (fun _ _ _ h => h) (Or.inl ⟨by rfl, ?_⟩) ?_
          rotate_left
          focus (intro wS hSw; (try dsimp only at hSw); go_simp; (try with_reducible rfl); (try (first | (rw [if_pos (by omega)]; (try go_simp); (try with_reducible rfl)) | (rw [if_neg (by omega)]; (try go_simp); (try with_reducible rfl)))))
          try simp only [Act.put, List.setIfInBounds_toArray, List.set_cons_zero, List.set_cons_succ]
          refine wpAnyR_takeQ (i := 3) (v := ?_) (some 27) rfl rfl (by kernel_rfl) (by kernel_rfl) (by kernel_rfl) (by kernel_rfl) (fun _ _ _ h => h) (Or.inl ⟨by rfl, ?_⟩) ?_
          rotate_left
          focus (intro wS hSw; (try dsimp only at hSw); go_simp; (try with_reducible rfl); (try (first | (rw [if_pos (by omega)]; (try go_simp); (try with_reducible rfl)) | (rw [if_neg (by omega)]; (try go_simp); (try with_reducible rfl)))))
          try simp only [Act.put, List.setIfInBounds_toArray, List.set_cons_zero, List.set_cons_succ]
          refine wpAnyR_takeQ (i := 4) (v := ?_) (some 28) rfl rfl (by kernel_rfl) (by kernel_rfl) (by kernel_rfl) (by kernel_rfl) (fun _ _ _ h => h) (Or.inl ⟨by rfl, ?_⟩) ?_
          rotate_left
          focus (intro wS hSw; (try dsimp only at hSw); go_simp; (try with_reducible rfl); (try (first | (rw [if_pos (by omega)]; (try go_simp); (try with_reducible rfl)) | (rw [if_neg (by omega)]; (try go_simp); (try with_reducible rfl)))))
          try simp only [Act.put, List.setIfInBounds_toArray, List.set_cons_zero, List.set_cons_succ]
          refine wpAnyR_takeQ (i := 5) (v := ?_) (some 29) rfl rfl (by kernel_rfl) (by kernel_rfl) (by kernel_rfl) (by kernel_rfl) (fun _ _ _ h => h) (Or.inl ⟨by rfl, ?_⟩) ?_
          rotate_left
          focus (intro wS hSw; (try dsimp only at hSw); go_simp; (try with_reducible rfl); (try (first | (rw [if_pos (by omega)]; (try go_simp); (try with_reducible rfl)) | (rw [if_neg (by omega)]; (try go_simp); (try with_reducible rfl)))))
          try simp only [Act.put, List.setIfInBounds_toArray, List.set_cons_zero, List.set_cons_succ]
          refine wpAnyR_take (i := 6) (v := ?_) [7, 8, 10, 12] (some 30) rfl rfl (by kernel_rfl) (by kernel_rfl) (by kernel_rfl) (by kernel_rfl) (by kernel_rfl) (by kernel_rfl) (by kernel_rfl) (fun _ _ _ h => h) (Or.inl ⟨by rfl, ?_⟩) hS ?_
          rotate_left
          focus (intro wS hSw; (try dsimp only at hSw); go_simp; (try with_reducible rfl); (try (first | (rw [if_pos (by omega)]; (try go_simp); (try with_reducible rfl)) | (rw [if_neg (by omega)]; (try go_simp); (try with_reducible rfl)))))
          try simp only [Act.put, List.setIfInBounds_toArray, List.set_cons_zero, List.set_cons_succ]
          refine wpAnyR_takeQ (i := 7) (v := ?_) (some 31) rfl rfl (by kernel_rfl) (by kernel_rfl) (by kernel_rfl) (by kernel_rfl) (fun _ _ _ h => h) (Or.inl ⟨by rfl, ?_⟩) ?_
          rotate_left
          focus (intro wS hSw; (try dsimp only at hSw); go_simp; (try with_reducible rfl); (try (first | (rw [if_pos (by omega)]; (try go_simp); (try with_reducible rfl)) | (rw [if_neg (by omega)]; (try go_simp); (try with_reducible rfl)))))
          try simp only [Act.put, List.setIfInBounds_toArray, List.set_cons_zero, List.set_cons_succ]
          refine wpAnyR_takeQ (i := 8) (v := ?_) (some 32) rfl rfl (by kernel_rfl) (by kernel_rfl) (by kernel_rfl) (by kernel_rfl) (fun _ _ _ h => h) (Or.inl ⟨by rfl, ?_⟩) ?_
          rotate_left
          focus (intro wS hSw; (try dsimp only at hSw); go_simp; (try with_reducible rfl); (try (first | (rw [if_pos (by omega)]; (try go_simp); (try with_reducible rfl)) | (rw [if_neg (by omega)]; (try go_simp); (try with_reducible rfl)))))
          try simp only [Act.put, List.setIfInBounds_toArray, List.set_cons_zero, List.set_cons_succ]
          refine wpAnyR_takeQ (i := 9) (v := ?_) (some 33) rfl rfl (by kernel_rfl) (by kernel_rfl) (by kernel_rfl) (by kernel_rfl) (fun _ _ _ h => h) (Or.inl ⟨by rfl, ?_⟩) ?_
          rotate_left
          focus (intro wS hSw; (try dsimp only at hSw); go_simp; (try with_reducible rfl); (try (first | (rw [if_pos (by omega)]; (try go_simp); (try with_reducible rfl)) | (rw [if_neg (by omega)]; (try go_simp); (try with_reducible rfl)))))
          try simp only [Act.put, List.setIfInBounds_toArray, List.set_cons_zero, List.set_cons_succ]
          refine wpAnyR_takeQ (i := 10) (v := ?_) (some 34) rfl rfl (by kernel_rfl) (by kernel_rfl) (by kernel_rfl) (by kernel_rfl) (fun _ _ _ h => h) (Or.inl ⟨by rfl, ?_⟩) ?_
          rotate_left
          focus (intro wS hSw; (try dsimp only at hSw); go_simp; (try with_reducible rfl); (try (first | (rw [if_pos (by omega)]; (try go_simp); (try with_reducible rfl)) | (rw [if_neg (by omega)]; (try go_simp); (try with_reducible rfl)))))
          try simp only [Act.put, List.setIfInBounds_toArray, List.set_cons_zero, List.set_cons_succ]
          refine wpAnyR_takeQ (i := 11) (v := ?_) (some 2) rfl rfl (by kernel_rfl) (by kernel_rfl) (by kernel_rfl) (by kernel_rfl) (fun _ _ _ h => h) (Or.inl ⟨by rfl, ?_⟩) ?_
          rotate_left
          focus (intro wS hSw; (try dsimp only at hSw); go_simp; (try with_reducible rfl); (try (first | (rw [if_pos (by omega)]; (try go_simp); (try with_reducible rfl)) | (rw [if_neg (by omega)]; (try go_simp); (try with_reducible rfl)))))
          try simp only [Act.put, List.setIfInBounds_toArray, List.set_cons_zero, List.set_cons_succ]
          refine wpAnyR_takeQ (i := 12) (v := ?_) (some 3) rfl rfl (by kernel_rfl) (by kernel_rfl) (by kernel_rfl) (by kernel_rfl) (fun _ _ _ h => h) (Or.inl ⟨by rfl, ?_⟩) ?_
          rotate_left
          focus (intro wS hSw; (try dsimp only at hSw); go_simp; (try with_reducible rfl); (try (first | (rw [if_pos (by omega)]; (try go_simp); (try with_reducible rfl)) | (rw [if_neg (by omega)]; (try go_simp); (try with_reducible rfl)))))
          try simp only [Act.put, List.setIfInBounds_toArray, List.set_cons_zero, List.set_cons_succ]
          refine wpAnyR_done (by kernel_rfl) ?_ _
          go_wp2_with fail
          go_returns
          exact ⟨ret_two (by first | rfl | exact HA.out) HB.out, hG.drew⟩
end
end Go.Proofs.Ytenbcjlikoajdaa
