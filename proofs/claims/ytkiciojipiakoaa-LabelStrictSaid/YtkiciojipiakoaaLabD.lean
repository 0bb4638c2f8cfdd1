/- Chapter 7: the conditions on the extents. -/
import Derived.Test.YtkiciojipiakoaaLabC
namespace Go.Proofs.Ytkiciojipiakoaa
set_option linter.unusedVariables false
set_option linter.unusedSimpArgs false
set_option linter.unusedSectionVars false
open Go.RowKit
attribute [local go_sem ↓] Go.wp_at_zero Go.wp_at_succ
theorem RunsAt.mono2 {w : World} {B B' : Nat} {A : Option Addr} {l : List (Int × Int)} (h : RunsAt w B A l) (hB : B ≤ B') : RunsAt w B' A l := ⟨h.1, h.2.mono hB⟩
theorem LabAt.len1 {w : World} {A : Option Addr} {c : Nat} {l : Lab} (h : LabAt w A c l) : l.ext.length ≤ 9223372036854775807 := Nat.le_trans h.len h.cap
section
variable (A : Option Addr) (c : Nat) (l : Lab) (g : Nat) (w : World)
set_option maxRecDepth 100000 in
set_option maxHeartbeats 1000000 in
theorem cond4_any (h : LabAt w A c l) (hs : l.ext.length ≤ 100000) (hb : Blk w g 24 #[.int .i64 l.id, .int .i64 l.unit, .string l.name, .string l.note, .slice A l.ext.length c]) :
    Calls Try.prog 35 #[.pointer (some ⟨g, 0, none⟩)] w fun e w' => e = .returned (.bool (jnB l)) ∧ Grew w w' := by
  have hl := hb.lt
  have hJ := jnB l
  obtain ⟨k, hk⟩ : ∃ k, ints (joinS l.ext) = k := ⟨_, rfl⟩
  have hkl : k.length ≤ l.ext.length := by rw [← hk, ints_len]; exact joinS_len _
  have HR := Lib.hid h.runs
  have HB := Lib.hid hb
  have HK := Lib.hid hk
  have HE := Lib.hid (show jnB l = (decide (k = l.ext) && decide (seqS l.ext).Nodup) from by unfold jnB; rw [hk])
  clear h hk hJ
  cases hj : decide (k = l.ext) with
  | false =>
    have HJ := Lib.hid hj
    have HF := Lib.hid (show jnB l = false from HE.out.trans (by rw [hj]; rfl))
    clear hj HE
    go_enter Try.func35, Try.ntmps35
    go_wp2_with fail
    refine wp_region_R [] (fun w' : World => w'.cell? ⟨g, 4, none⟩ = some (.slice A l.ext.length c)) (by kernel_rfl) ?_
    have hS := HB.out.drew.cell 4
    refine wpAnyR_takeQ (i := 0) (v := ?_) (some 2) rfl rfl (by kernel_rfl) (by kernel_rfl) (by kernel_rfl) (by kernel_rfl) (fun _ _ _ h => h) (Or.inl ⟨by rfl, ?_⟩) ?_
    rotate_left
    focus (intro wS hSw; (try dsimp only at hSw); go_simp; (try with_reducible rfl); (try (first | (rw [if_pos (by omega)]; (try go_simp); (try with_reducible rfl)) | (rw [if_neg (by omega)]; (try go_simp); (try with_reducible rfl)))))
    try simp only [Act.put, List.setIfInBounds_toArray, List.set_cons_zero, List.set_cons_succ]
    refine wpAnyR_take (i := 1) (v := ?_) [2, 5, 6, 7, 8, 9, 10, 11] (some 3) rfl rfl (by kernel_rfl) (by kernel_rfl) (by kernel_rfl) (by kernel_rfl) (by kernel_rfl) (by kernel_rfl) (by kernel_rfl) (fun _ _ _ h => h) (Or.inl ⟨by rfl, ?_⟩) hS ?_
    rotate_left
    focus (intro wS hSw; (try dsimp only at hSw); go_simp; (try with_reducible rfl); (try (first | (rw [if_pos (by omega)]; (try go_simp); (try with_reducible rfl)) | (rw [if_neg (by omega)]; (try go_simp); (try with_reducible rfl)))))
    try simp only [Act.put, List.setIfInBounds_toArray, List.set_cons_zero, List.set_cons_succ]
    refine wpAnyR_takeQ (i := 3) (v := ?_) (some 5) rfl rfl (by kernel_rfl) (by kernel_rfl) (by kernel_rfl) (by kernel_rfl) (fun _ _ _ h => h) (Or.inl ⟨by rfl, ?_⟩) ?_
    rotate_left
    focus (intro wS hSw; (try dsimp only at hSw); go_simp; (try with_reducible rfl); (try (first | (rw [if_pos (by omega)]; (try go_simp); (try with_reducible rfl)) | (rw [if_neg (by omega)]; (try go_simp); (try with_reducible rfl)))))
    try simp only [Act.put, List.setIfInBounds_toArray, List.set_cons_zero, List.set_cons_succ]
    refine wpAnyR_take (i := 4) (v := ?_) [5, 6, 7, 8, 9, 10, 11] (some 6) rfl rfl (by kernel_rfl) (by kernel_rfl) (by kernel_rfl) (by kernel_rfl) (by kernel_rfl) (by kernel_rfl) (by kernel_rfl) (fun _ _ _ h => h) (Or.inl ⟨by rfl, ?_⟩) hS ?_
    rotate_left
    focus (intro wS hSw; (try dsimp only at hSw); go_simp; (try with_reducible rfl); (try (first | (rw [if_pos (by omega)]; (try go_simp); (try with_reducible rfl)) | (rw [if_neg (by omega)]; (try go_simp); (try with_reducible rfl)))))
    try simp only [Act.put, List.setIfInBounds_toArray, List.set_cons_zero, List.set_cons_succ]
    refine wpAnyR_n1 (i := 2) rfl (by kernel_rfl) ?_
    intro K' hK
    rw [if_pos (by rfl)]
    simp only [List.getElem_toArray, List.getElem_cons_succ, List.getElem_cons_zero]
    go_wp2_with fail
    refine (join_val A c _ l.ext w.drew rfl (by omega) HR.out k HK.out).mono ?_
    rintro e w1 ⟨A1, c1, rfl, hr1, g1⟩
    have HR1 := Lib.hid hr1
    clear hr1
    go_wp2_with fail
    refine hK.out _ _ (.inr (fun _ => (HB.out.drew.grew g1).cell 4)) ?_
    clear hK hS
    have g1' : Grew w w1 := (Grew.refl w).drew.trans g1
    have hS := (HB.out.grew g1').cell 4
    refine wpAnyR_n1 (i := 5) rfl (by kernel_rfl) ?_
    intro K' hK
    rw [if_pos (by rfl)]
    simp only [List.getElem_toArray, List.getElem_cons_succ, List.getElem_cons_zero]
    go_wp2_with fail
    refine (equal_any A1 A c1 c k l.ext w1 w1.heap.size (Nat.le_refl _) (by omega) (by omega) HR1.out ((HR.out.keep (Nat.le_refl _) g1').mono2 g1'.size)).mono ?_
    rintro e w2 ⟨rfl, g2'⟩
    rw [HJ.out]
    have g2 : Grew w w2 := g1'.trans g2'
    go_wp2_with fail
    refine hK.out _ _ (.inr (fun _ => (HB.out.grew g2).cell 4)) ?_
    clear hK hS
    have hS := (HB.out.grew g2).cell 4
    refine wpAnyR_takeQ (i := 6) (v := ?_) (some 8) rfl rfl (by kernel_rfl) (by kernel_rfl) (by kernel_rfl) (by kernel_rfl) (fun _ _ _ h => h) (Or.inl ⟨by rfl, ?_⟩) ?_
    rotate_left
    focus (intro wS hSw; (try dsimp only at hSw); go_simp; (try with_reducible rfl); (try (first | (rw [if_pos (by omega)]; (try go_simp); (try with_reducible rfl)) | (rw [if_neg (by omega)]; (try go_simp); (try with_reducible rfl)))))
    try simp only [Act.put, List.setIfInBounds_toArray, List.set_cons_zero, List.set_cons_succ]
    refine wpAnyR_takeQ (i := 7) (v := undef) (some 9) rfl rfl (by kernel_rfl) (by kernel_rfl) (by kernel_rfl) (by kernel_rfl) (fun _ _ _ h => h) (Or.inr ⟨by rfl, rfl⟩) ?_
    try simp only [Act.put, List.setIfInBounds_toArray, List.set_cons_zero, List.set_cons_succ]
    refine wpAnyR_takeQ (i := 8) (v := undef) (some 10) rfl rfl (by kernel_rfl) (by kernel_rfl) (by kernel_rfl) (by kernel_rfl) (fun _ _ _ h => h) (Or.inr ⟨by rfl, rfl⟩) ?_
    try simp only [Act.put, List.setIfInBounds_toArray, List.set_cons_zero, List.set_cons_succ]
    refine wpAnyR_takeQ (i := 9) (v := undef) (some 11) rfl rfl (by kernel_rfl) (by kernel_rfl) (by kernel_rfl) (by kernel_rfl) (fun _ _ _ h => h) (Or.inr ⟨by rfl, rfl⟩) ?_
    try simp only [Act.put, List.setIfInBounds_toArray, List.set_cons_zero, List.set_cons_succ]
    refine wpAnyR_takeQ (i := 10) (v := ?_) (some 12) rfl rfl (by kernel_rfl) (by kernel_rfl) (by kernel_rfl) (by kernel_rfl) (fun _ _ _ h => h) (Or.inl ⟨by rfl, ?_⟩) ?_
    rotate_left
    focus (intro wS hSw; (try dsimp only at hSw); go_simp; (try with_reducible rfl); (try (first | (rw [if_pos (by omega)]; (try go_simp); (try with_reducible rfl)) | (rw [if_neg (by omega)]; (try go_simp); (try with_reducible rfl)))))
    try simp only [Act.put, List.setIfInBounds_toArray, List.set_cons_zero, List.set_cons_succ]
    refine wpAnyR_takeQ (i := 11) (v := ?_) (some 1) rfl rfl (by kernel_rfl) (by kernel_rfl) (by kernel_rfl) (by kernel_rfl) (fun _ _ _ h => h) (Or.inl ⟨by rfl, ?_⟩) ?_
    rotate_left
    focus (intro wS hSw; (try dsimp only at hSw); go_simp; (try with_reducible rfl); (try (first | (rw [if_pos (by omega)]; (try go_simp); (try with_reducible rfl)) | (rw [if_neg (by omega)]; (try go_simp); (try with_reducible rfl)))))
    try simp only [Act.put, List.setIfInBounds_toArray, List.set_cons_zero, List.set_cons_succ]
    refine wpAnyR_done (by kernel_rfl) ?_ _
    go_wp2_with fail
    go_ret
    exact ⟨ret_bool (by rw [HF.out]), g2⟩
  | true =>
    have HJ := Lib.hid hj
    have HF := Lib.hid (show jnB l = decide (seqS l.ext).Nodup from HE.out.trans (by rw [hj]; rfl))
    clear hj HE
    go_enter Try.func35, Try.ntmps35
    go_wp2_with fail
    refine wp_region_R [] (fun w' : World => w'.cell? ⟨g, 4, none⟩ = some (.slice A l.ext.length c)) (by kernel_rfl) ?_
    have hS := HB.out.drew.cell 4
    refine wpAnyR_takeQ (i := 0) (v := ?_) (some 2) rfl rfl (by kernel_rfl) (by kernel_rfl) (by kernel_rfl) (by kernel_rfl) (fun _ _ _ h => h) (Or.inl ⟨by rfl, ?_⟩) ?_
    rotate_left
    focus (intro wS hSw; (try dsimp only at hSw); go_simp; (try with_reducible rfl); (try (first | (rw [if_pos (by omega)]; (try go_simp); (try with_reducible rfl)) | (rw [if_neg (by omega)]; (try go_simp); (try with_reducible rfl)))))
    try simp only [Act.put, List.setIfInBounds_toArray, List.set_cons_zero, List.set_cons_succ]
    refine wpAnyR_take (i := 1) (v := ?_) [2, 5, 6, 7, 8, 9, 10, 11] (some 3) rfl rfl (by kernel_rfl) (by kernel_rfl) (by kernel_rfl) (by kernel_rfl) (by kernel_rfl) (by kernel_rfl) (by kernel_rfl) (fun _ _ _ h => h) (Or.inl ⟨by rfl, ?_⟩) hS ?_
    rotate_left
    focus (intro wS hSw; (try dsimp only at hSw); go_simp; (try with_reducible rfl); (try (first | (rw [if_pos (by omega)]; (try go_simp); (try with_reducible rfl)) | (rw [if_neg (by omega)]; (try go_simp); (try with_reducible rfl)))))
    try simp only [Act.put, List.setIfInBounds_toArray, List.set_cons_zero, List.set_cons_succ]
    refine wpAnyR_takeQ (i := 3) (v := ?_) (some 5) rfl rfl (by kernel_rfl) (by kernel_rfl) (by kernel_rfl) (by kernel_rfl) (fun _ _ _ h => h) (Or.inl ⟨by rfl, ?_⟩) ?_
    rotate_left
    focus (intro wS hSw; (try dsimp only at hSw); go_simp; (try with_reducible rfl); (try (first | (rw [if_pos (by omega)]; (try go_simp); (try with_reducible rfl)) | (rw [if_neg (by omega)]; (try go_simp); (try with_reducible rfl)))))
    try simp only [Act.put, List.setIfInBounds_toArray, List.set_cons_zero, List.set_cons_succ]
    refine wpAnyR_take (i := 4) (v := ?_) [5, 6, 7, 8, 9, 10, 11] (some 6) rfl rfl (by kernel_rfl) (by kernel_rfl) (by kernel_rfl) (by kernel_rfl) (by kernel_rfl) (by kernel_rfl) (by kernel_rfl) (fun _ _ _ h => h) (Or.inl ⟨by rfl, ?_⟩) hS ?_
    rotate_left
    focus (intro wS hSw; (try dsimp only at hSw); go_simp; (try with_reducible rfl); (try (first | (rw [if_pos (by omega)]; (try go_simp); (try with_reducible rfl)) | (rw [if_neg (by omega)]; (try go_simp); (try with_reducible rfl)))))
    try simp only [Act.put, List.setIfInBounds_toArray, List.set_cons_zero, List.set_cons_succ]
    refine wpAnyR_n1 (i := 2) rfl (by kernel_rfl) ?_
    intro K' hK
    rw [if_pos (by rfl)]
    simp only [List.getElem_toArray, List.getElem_cons_succ, List.getElem_cons_zero]
    go_wp2_with fail
    refine (join_val A c _ l.ext w.drew rfl (by omega) HR.out k HK.out).mono ?_
    rintro e w1 ⟨A1, c1, rfl, hr1, g1⟩
    have HR1 := Lib.hid hr1
    clear hr1
    go_wp2_with fail
    refine hK.out _ _ (.inr (fun _ => (HB.out.drew.grew g1).cell 4)) ?_
    clear hK hS
    have g1' : Grew w w1 := (Grew.refl w).drew.trans g1
    have hS := (HB.out.grew g1').cell 4
    refine wpAnyR_n1 (i := 5) rfl (by kernel_rfl) ?_
    intro K' hK
    rw [if_pos (by rfl)]
    simp only [List.getElem_toArray, List.getElem_cons_succ, List.getElem_cons_zero]
    go_wp2_with fail
    refine (equal_any A1 A c1 c k l.ext w1 w1.heap.size (Nat.le_refl _) (by omega) (by omega) HR1.out ((HR.out.keep (Nat.le_refl _) g1').mono2 g1'.size)).mono ?_
    rintro e w2 ⟨rfl, g2'⟩
    rw [HJ.out]
    have g2 : Grew w w2 := g1'.trans g2'
    go_wp2_with fail
    refine hK.out _ _ (.inr (fun _ => (HB.out.grew g2).cell 4)) ?_
    clear hK hS
    have hS := (HB.out.grew g2).cell 4
    refine wpAnyR_takeQ (i := 6) (v := ?_) (some 8) rfl rfl (by kernel_rfl) (by kernel_rfl) (by kernel_rfl) (by kernel_rfl) (fun _ _ _ h => h) (Or.inl ⟨by rfl, ?_⟩) ?_
    rotate_left
    focus (intro wS hSw; (try dsimp only at hSw); go_simp; (try with_reducible rfl); (try (first | (rw [if_pos (by omega)]; (try go_simp); (try with_reducible rfl)) | (rw [if_neg (by omega)]; (try go_simp); (try with_reducible rfl)))))
    try simp only [Act.put, List.setIfInBounds_toArray, List.set_cons_zero, List.set_cons_succ]
    refine wpAnyR_takeQ (i := 7) (v := ?_) (some 9) rfl rfl (by kernel_rfl) (by kernel_rfl) (by kernel_rfl) (by kernel_rfl) (fun _ _ _ h => h) (Or.inl ⟨by rfl, ?_⟩) ?_
    rotate_left
    focus (intro wS hSw; (try dsimp only at hSw); go_simp; (try with_reducible rfl); (try (first | (rw [if_pos (by omega)]; (try go_simp); (try with_reducible rfl)) | (rw [if_neg (by omega)]; (try go_simp); (try with_reducible rfl)))))
    try simp only [Act.put, List.setIfInBounds_toArray, List.set_cons_zero, List.set_cons_succ]
    refine wpAnyR_take (i := 8) (v := ?_) [9, 10, 11] (some 10) rfl rfl (by kernel_rfl) (by kernel_rfl) (by kernel_rfl) (by kernel_rfl) (by kernel_rfl) (by kernel_rfl) (by kernel_rfl) (fun _ _ _ h => h) (Or.inl ⟨by rfl, ?_⟩) hS ?_
    rotate_left
    focus (intro wS hSw; (try dsimp only at hSw); go_simp; (try with_reducible rfl); (try (first | (rw [if_pos (by omega)]; (try go_simp); (try with_reducible rfl)) | (rw [if_neg (by omega)]; (try go_simp); (try with_reducible rfl)))))
    try simp only [Act.put, List.setIfInBounds_toArray, List.set_cons_zero, List.set_cons_succ]
    refine wpAnyR_n1 (i := 9) rfl (by kernel_rfl) ?_
    intro K' hK
    rw [if_pos (by rfl)]
    simp only [List.getElem_toArray, List.getElem_cons_succ, List.getElem_cons_zero]
    go_wp2_with fail
    refine (disjoint_val rfl (by omega) ((HR.out.keep (Nat.le_refl _) g2).mono2 g2.size) _ rfl).mono ?_
    rintro e w3 ⟨rfl, g3⟩
    have HG3 := Lib.hid (g2.trans g3)
    clear g3
    go_wp2_with fail
    refine hK.out _ _ (.inr (fun _ => (HB.out.grew HG3.out).cell 4)) ?_
    clear hK
    refine wpAnyR_takeQ (i := 10) (v := ?_) (some 12) rfl rfl (by kernel_rfl) (by kernel_rfl) (by kernel_rfl) (by kernel_rfl) (fun _ _ _ h => h) (Or.inl ⟨by rfl, ?_⟩) ?_
    rotate_left
    focus (intro wS hSw; (try dsimp only at hSw); go_simp; (try with_reducible rfl); (try (first | (rw [if_pos (by omega)]; (try go_simp); (try with_reducible rfl)) | (rw [if_neg (by omega)]; (try go_simp); (try with_reducible rfl)))))
    try simp only [Act.put, List.setIfInBounds_toArray, List.set_cons_zero, List.set_cons_succ]
    refine wpAnyR_takeQ (i := 11) (v := ?_) (some 1) rfl rfl (by kernel_rfl) (by kernel_rfl) (by kernel_rfl) (by kernel_rfl) (fun _ _ _ h => h) (Or.inl ⟨by rfl, ?_⟩) ?_
    rotate_left
    focus (intro wS hSw; (try dsimp only at hSw); go_simp; (try with_reducible rfl); (try (first | (rw [if_pos (by omega)]; (try go_simp); (try with_reducible rfl)) | (rw [if_neg (by omega)]; (try go_simp); (try with_reducible rfl)))))
    try simp only [Act.put, List.setIfInBounds_toArray, List.set_cons_zero, List.set_cons_succ]
    refine wpAnyR_done (by kernel_rfl) ?_ _
    go_wp2_with fail
    go_ret
    exact ⟨ret_bool (by rw [HF.out]), HG3.out⟩
end
theorem badR_iff (t : Int) (r : Int × Int) : badR t r = true ↔ (r.1 < ttS t ∨ t < r.1 + r.2) := by simp [badR]
set_option maxRecDepth 100000 in
theorem bad1_any (t f n : Int) (g1 g2 : Nat) (w : World) (h1 : Blk w g1 3 #[.int .i64 (ttS t)]) (h2 : Blk w g2 3 #[.int .i64 t]) (hf : 0 ≤ f ∧ f ≤ 1000) (hn : 0 ≤ n ∧ n ≤ 1000) :
    Calls Try.prog 41 #[.agg #[.int .i64 f, .int .i64 n], .pointer (some ⟨g1, 0, none⟩), .pointer (some ⟨g2, 0, none⟩)] w fun e w' => e = .returned (.bool (badR t (f, n))) ∧ Grew w w' := by
  obtain ⟨hf0, hf1⟩ := hf
  obtain ⟨hn0, hn1⟩ := hn
  have hl1 := h1.lt
  have hl2 := h2.lt
  have x1 := h1.cell 0
  have x2 := h2.cell 0
  have HB := Lib.hid (show badR t (f, n) = (decide (f < ttS t) || decide (t < f + n)) from rfl)
  clear h1 h2
  generalize ttS t = tt at *
  by_cases a1 : f < tt
  · have HF := Lib.hid (show badR t (f, n) = true from HB.out.trans (by simp [a1]))
    clear HB
    go_enter Try.func41, Try.ntmps41
    go_wp2_with fail
    go_ret
    exact ⟨ret_bool (by rw [HF.out]), by (repeat' first | (with_reducible exact Grew.refl _) | (with_reducible assumption) | (with_reducible refine Grew.alloc ?_ _) | (with_reducible refine Grew.drew ?_) | (with_reducible refine Grew.drewN ?_ _) | (with_reducible refine Grew.setRow ?_ (by first | (simp; done) | (simp; omega) | omega) _) | (with_reducible refine Grew.setCell ?_ (by first | (simp; done) | (simp; omega) | omega) _) | ((with_reducible apply Grew.trans); rotate_left; (with_reducible assumption)) | ((with_reducible apply Grew.turn); rotate_left; (with_reducible assumption); (focus (intro i hi; first | omega | (simp at hi; omega)))) | fail)⟩
  · by_cases a2 : t < f + n
    · have HF := Lib.hid (show badR t (f, n) = true from HB.out.trans (by simp [a1, a2]))
      clear HB
      go_enter Try.func41, Try.ntmps41
      go_wp2_with fail
      go_ret
      exact ⟨ret_bool (by rw [HF.out]), by (repeat' first | (with_reducible exact Grew.refl _) | (with_reducible assumption) | (with_reducible refine Grew.alloc ?_ _) | (with_reducible refine Grew.drew ?_) | (with_reducible refine Grew.drewN ?_ _) | (with_reducible refine Grew.setRow ?_ (by first | (simp; done) | (simp; omega) | omega) _) | (with_reducible refine Grew.setCell ?_ (by first | (simp; done) | (simp; omega) | omega) _) | ((with_reducible apply Grew.trans); rotate_left; (with_reducible assumption)) | ((with_reducible apply Grew.turn); rotate_left; (with_reducible assumption); (focus (intro i hi; first | omega | (simp at hi; omega)))) | fail)⟩
    · have HF := Lib.hid (show badR t (f, n) = false from HB.out.trans (by simp [a1, a2]))
      clear HB
      go_enter Try.func41, Try.ntmps41
      go_wp2_with fail
      go_ret
      exact ⟨ret_bool (by rw [HF.out]), by (repeat' first | (with_reducible exact Grew.refl _) | (with_reducible assumption) | (with_reducible refine Grew.alloc ?_ _) | (with_reducible refine Grew.drew ?_) | (with_reducible refine Grew.drewN ?_ _) | (with_reducible refine Grew.setRow ?_ (by first | (simp; done) | (simp; omega) | omega) _) | (with_reducible refine Grew.setCell ?_ (by first | (simp; done) | (simp; omega) | omega) _) | ((with_reducible apply Grew.trans); rotate_left; (with_reducible assumption)) | ((with_reducible apply Grew.turn); rotate_left; (with_reducible assumption); (focus (intro i hi; first | omega | (simp at hi; omega)))) | fail)⟩
def IdxR (l : List (Int × Int)) (t : Int) (e : Ending) : Prop := (∃ i : Nat, e = .returned (.int .i64 (i : Int)) ∧ i < l.length ∧ l.any (badR t) = true) ∨ (e = .returned (.int .i64 (-1)) ∧ l.any (badR t) = false)
section
variable (A : Option Addr) (c : Nat) (l : List (Int × Int)) (t : Int) (g1 g2 : Nat) (w : World)
set_option maxRecDepth 100000 in
set_option maxHeartbeats 1000000 in
theorem idxf_any (h1 : Blk w g1 3 #[.int .i64 (ttS t)]) (h2 : Blk w g2 3 #[.int .i64 t]) (hr : RunsAt w w.heap.size A l) (hl : l.length ≤ 100000) (hs : ∀ r ∈ l, 0 ≤ r.1 ∧ 0 ≤ r.2 ∧ r.1 + r.2 ≤ 128) :
    Calls Try.prog 61 #[.slice A l.length c, .func (.func 41) #[] #[.pointer (some ⟨g1, 0, none⟩), .pointer (some ⟨g2, 0, none⟩)]] w fun e w' => IdxR l t e ∧ Grew w w' := by
  have HR := Lib.hid hr
  have HS := Lib.hid hs
  have H1 := Lib.hid h1
  have H2 := Lib.hid h2
  clear hr hs h1 h2
  go_enter Try.func61, Try.ntmps61
  go_wp2_with fail
  go_loopg [8] l.length (fun gk i wr => ∃ k : Nat, k ≤ l.length ∧ gk = l.length - k ∧ i = .int .i64 k ∧ (∀ j (hj : j < l.length), j < k → badR t l[j] = false) ∧ Grew w wr)
  case atStart => exact ⟨0, by omega, by omega, rfl, fun j _ h => by omega, Grew.refl _⟩
  case round =>
    obtain ⟨k, hk, hgk, rfl, hall, hg⟩ := hrel
    have HGK := Lib.hid hgk
    have HA := Lib.hid hall
    have HG := Lib.hid hg
    clear hgk hall
    by_cases hlt : k < l.length
    · obtain ⟨b, off, f, n, rfl, hb, hv, hok, c0, c1⟩ := (HR.out.keep (Nat.le_refl _) hg).at_ hlt
      have hsm := HS.out l[k] (List.getElem_mem hlt)
      rw [hv] at hsm
      simp only at hsm
      have HV := Lib.hid hv
      have HB := Lib.hid (bad1_any t f n g1 g2 wr (H1.out.grew hg) (H2.out.grew hg) (by omega) (by omega))
      clear hv hok
      go_wp2_with fail
      refine HB.out.mono ?_
      rintro e w3 ⟨rfl, g3⟩
      cases hbd : badR t (f, n) with
      | true =>
        have HIN := Lib.hid (show l.any (badR t) = true from by rw [List.any_eq_true]; exact ⟨l[k], List.getElem_mem hlt, by rw [HV.out]; exact hbd⟩)
        clear hbd
        go_wp2_with fail
        go_ret
        exact ⟨.inl ⟨k, rfl, hlt, HIN.out⟩, HG.out.trans g3⟩
      | false =>
        have HN := Lib.hid (show ∀ j (hj : j < l.length), j < k + 1 → badR t l[j] = false from fun j hj hjk => by
          by_cases hjk' : j = k
          · subst hjk'; rw [HV.out]; exact hbd
          · exact HA.out j hj (by omega))
        clear hbd
        go_wp2_with fail
        go_roundg (l.length - (k + 1))
        case measure => rw [HGK.out]; omega
        case rel => exact ⟨k + 1, by omega, by omega, by go_num, HN.out, HG.out.trans g3⟩
    · have HN := Lib.hid (show l.any (badR t) = false from by
        rw [List.any_eq_false]
        intro x hx
        obtain ⟨j, hj, rfl⟩ := List.getElem_of_mem hx
        rw [HA.out j hj (by omega)]
        simp)
      go_wp2_with fail
      go_ret
      exact ⟨.inr ⟨rfl, HN.out⟩, HG.out⟩
set_option maxRecDepth 100000 in
theorem hasf_any (h1 : Blk w g1 3 #[.int .i64 (ttS t)]) (h2 : Blk w g2 3 #[.int .i64 t]) (hr : RunsAt w w.heap.size A l) (hl : l.length ≤ 100000) (hs : ∀ r ∈ l, 0 ≤ r.1 ∧ 0 ≤ r.2 ∧ r.1 + r.2 ≤ 128) :
    Calls Try.prog 40 #[.slice A l.length c, .func (.func 41) #[] #[.pointer (some ⟨g1, 0, none⟩), .pointer (some ⟨g2, 0, none⟩)]] w fun e w' => e = .returned (.bool (l.any (badR t))) ∧ Grew w w' := by
  have HC := Lib.hid (idxf_any A c l t g1 g2 w h1 h2 hr hl hs)
  clear h1 h2 hr hs
  go_enter Try.func40, Try.ntmps40
  go_wp2_with fail
  refine HC.out.mono ?_
  rintro e w1 ⟨hi, g1⟩
  rcases hi with ⟨i, rfl, hil, he⟩ | ⟨rfl, he⟩
  · have HE := Lib.hid he
    have hi0 : (0 : Int) ≤ (i : Int) := by omega
    clear he
    go_wp2_with fail
    go_ret
    exact ⟨ret_bool (by rw [HE.out]), g1⟩
  · have HE := Lib.hid he
    clear he
    go_wp2_with fail
    go_ret
    exact ⟨ret_bool (by rw [HE.out]), g1⟩
end
set_option maxRecDepth 100000 in
theorem cond5_any (A : Option Addr) (c : Nat) (l : Lab) (t : Int) (g g1 g2 : Nat) (w : World) (h : LabAt w A c l) (hs : l.ext.length ≤ 100000) (hj : jnB l = true) (hb : Blk w g 24 #[.int .i64 l.id, .int .i64 l.unit, .string l.name, .string l.note, .slice A l.ext.length c]) (h1 : Blk w g1 3 #[.int .i64 (ttS t)]) (h2 : Blk w g2 3 #[.int .i64 t]) :
    Calls Try.prog 39 #[.pointer (some ⟨g, 0, none⟩), .pointer (some ⟨g1, 0, none⟩), .pointer (some ⟨g2, 0, none⟩)] w fun e w' => e = .returned (.bool (inB l t)) ∧ Grew w w' := by
  have hl := hb.lt
  have x4 := hb.cell 4
  have HC := Lib.hid (hasf_any A c l.ext t g1 g2 w h1 h2 h.runs hs (jn_bd l hj))
  have HE := Lib.hid (show inB l t = !(l.ext.any (badR t)) from rfl)
  clear h hj hb h1 h2
  go_enter Try.func39, Try.ntmps39
  go_wp2_with fail
  refine HC.out.mono ?_
  rintro e w1 ⟨rfl, g1⟩
  cases hx : l.ext.any (badR t) with
  | true =>
    have HX := Lib.hid hx
    clear hx
    go_wp2_with fail
    go_ret
    exact ⟨ret_bool (by rw [HE.out, HX.out]; rfl), g1⟩
  | false =>
    have HX := Lib.hid hx
    clear hx
    go_wp2_with fail
    go_ret
    exact ⟨ret_bool (by rw [HE.out, HX.out]; rfl), g1⟩
end Go.Proofs.Ytkiciojipiakoaa
