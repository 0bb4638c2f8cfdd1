/- Cut: the two parts of a list. -/
import Derived.Test.YtenbcjlikoajdaaExtM
namespace Go.Proofs.Ytenbcjlikoajdaa
set_option linter.unusedVariables false
set_option linter.unusedSimpArgs false
set_option linter.unusedSectionVars false
open Go.RowKit
/-- The first n tracks, and the others, a run each. -/
def cutA : List (Int × Int) → Nat → List (Nat × Nat)
  | [], _ => []
  | r :: l, n => ((clipS r).1, min n (clipS r).2) :: cutA l (n - (clipS r).2)
def cutB : List (Int × Int) → Nat → List (Nat × Nat)
  | [], _ => []
  | r :: l, n => ((clipS r).1 + min n (clipS r).2, (clipS r).2 - min n (clipS r).2) :: cutB l (n - (clipS r).2)
theorem sizeS_cons (r : Int × Int) (l : List (Int × Int)) : sizeS (r :: l) = (clipS r).2 + sizeS l := rfl
theorem cutA_snoc (x : Int × Int) : ∀ (l : List (Int × Int)) (n : Nat), cutA (l ++ [x]) n = cutA l n ++ [((clipS x).1, min (n - sizeS l) (clipS x).2)] := by
  intro l
  induction l with
  | nil => intro n; rfl
  | cons r l ih =>
    intro n
    rw [List.cons_append, cutA, cutA, ih, List.cons_append, sizeS_cons, Nat.sub_sub]
theorem cutB_snoc (x : Int × Int) : ∀ (l : List (Int × Int)) (n : Nat), cutB (l ++ [x]) n = cutB l n ++ [((clipS x).1 + min (n - sizeS l) (clipS x).2, (clipS x).2 - min (n - sizeS l) (clipS x).2)] := by
  intro l
  induction l with
  | nil => intro n; rfl
  | cons r l ih =>
    intro n
    rw [List.cons_append, cutB, cutB, ih, List.cons_append, sizeS_cons, Nat.sub_sub]
theorem cutA_len : ∀ (l : List (Int × Int)) (n : Nat), (cutA l n).length = l.length := by
  intro l; induction l with
  | nil => intro n; rfl
  | cons r l ih => intro n; rw [cutA, List.length_cons, ih, List.length_cons]
theorem cutB_len : ∀ (l : List (Int × Int)) (n : Nat), (cutB l n).length = l.length := by
  intro l; induction l with
  | nil => intro n; rfl
  | cons r l ih => intro n; rw [cutB, List.length_cons, ih, List.length_cons]
theorem cutA_bd : ∀ (l : List (Int × Int)) (n : Nat), ∀ r ∈ cutA l n, r.1 + r.2 ≤ 128 := by
  intro l; induction l with
  | nil => intro n r hr; simp [cutA] at hr
  | cons x l ih =>
    intro n r hr
    have := clipS_le x
    rcases List.mem_cons.1 hr with rfl | hr
    · simp only []; omega
    · exact ih _ r hr
theorem cutB_bd : ∀ (l : List (Int × Int)) (n : Nat), ∀ r ∈ cutB l n, r.1 + r.2 ≤ 128 := by
  intro l; induction l with
  | nil => intro n r hr; simp [cutB] at hr
  | cons x l ih =>
    intro n r hr
    have := clipS_le x
    rcases List.mem_cons.1 hr with rfl | hr
    · simp only []; omega
    · exact ih _ r hr
end Go.Proofs.Ytenbcjlikoajdaa
