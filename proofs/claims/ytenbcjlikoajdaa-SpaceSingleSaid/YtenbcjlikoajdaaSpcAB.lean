/- Chapter 6, plain: what Consolidate returns. -/
import Derived.Test.YtenbcjlikoajdaaSpcAA
namespace Go.Proofs.Ytenbcjlikoajdaa
set_option linter.unusedVariables false
set_option linter.unusedSimpArgs false
set_option linter.unusedSectionVars false
open Go.RowKit
theorem con_ok (e f : List (Int × Int)) (a b : Int) (h : conS e f = ((a, b), true)) :
    2 ≤ (joinS e).length ∧ b = (sizeS e : Int) ∧ ∃ x d : Nat, a = (x : Int) ∧ b = (d : Int) ∧ 0 < d ∧ x + d ≤ 128 ∧ ∀ i, x ≤ i → i < x + d → memS f i = true ∧ memS e i = false := by
  unfold conS at h
  split at h
  · injection h with _ h; cases h
  · rename_i hj
    obtain ⟨h1, h2, x, d, h3, h4, h5, h6⟩ := best_ok _ _ _ _ h
    refine ⟨by omega, h1, x, d, h3, by omega, by omega, h5, fun i hi1 hi2 => ?_⟩
    have := h6 i hi1 hi2
    rw [memS_normS _ i (by omega)] at this
    rw [Bool.and_eq_true, Bool.not_eq_true'] at this
    exact this
theorem con_none (e f : List (Int × Int)) (a b : Int) (h : conS e f = ((a, b), false)) : a = 0 ∧ b = 0 := by
  unfold conS at h
  split at h
  · injection h with h _
    injection h with h1 h2
    exact ⟨h1.symm, h2.symm⟩
  · exact best_none _ _ _ _ h
theorem filter_part (p q : Nat → Bool) (l : List Nat) : (l.filter fun i => p i && q i).length + (l.filter fun i => p i && !q i).length = (l.filter p).length := by
  induction l with
  | nil => rfl
  | cons x l ih => cases hp : p x <;> cases hq : q x <;> simp [List.filter_cons, hp, hq] <;> omega
theorem size_without (U R : Nat → Bool) (h : ∀ i, i < 128 → R i = true → U i = true) : sizeS (ints (normS fun i => U i && !R i)) + sizeS (ints (normS R)) = sizeS (ints (normS U)) := by
  rw [sizeS_normS, sizeS_normS, sizeS_normS]
  have h1 := filter_part U R (List.range 128)
  have h2 : (List.range 128).filter (fun i => U i && R i) = (List.range 128).filter R := by
    refine List.filter_congr (fun i hi => ?_)
    cases hr : R i with
    | false => simp
    | true => rw [h i (List.mem_range.1 hi) hr]; rfl
  rw [h2] at h1
  omega
end Go.Proofs.Ytenbcjlikoajdaa
