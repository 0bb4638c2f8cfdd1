/- Chapter 6: what the reference's Extend has left. -/
import Derived.Test.YtenbcjlikoajdaaSpcK
namespace Go.Proofs.Ytenbcjlikoajdaa
set_option linter.unusedVariables false
set_option linter.unusedSimpArgs false
set_option linter.unusedSectionVars false
open Go.RowKit
/-- The free tracks without the k ones from p on. -/
def leftK (F : List (Nat × Nat)) (p k : Nat) : List (Nat × Nat) := normS fun i => memS (ints F) i && !decide (p ≤ i ∧ i < p + k)
theorem leftK_zero (S : Nat → Bool) (p : Nat) : leftK (normS S) p 0 = normS S := by
  unfold leftK
  conv => rhs; rw [← normS_norm S]
  refine normS_congr (fun i _ => ?_)
  rw [decide_eq_false (by omega)]
  simp
theorem mem_single (p : Nat) (hp : p < 128) (i : Nat) : memS [((p : Int), (1 : Int))] i = decide (p ≤ i ∧ i < p + 1) := by
  show (inS (clipS ((p : Int), ((1 : Nat) : Int))) i || false) = _
  rw [clipS_nat p 1 (by omega) (by omega), Bool.or_false]
  rfl
theorem leftK_succ (F : List (Nat × Nat)) (p k : Nat) (h : p + k < 128) : (normS fun i => memS (ints (leftK F p k)) i && !memS [(((p + k : Nat) : Int), (1 : Int))] i) = leftK F p (k + 1) := by
  refine normS_congr (fun i hi => ?_)
  show (memS (ints (normS fun i => memS (ints F) i && !decide (p ≤ i ∧ i < p + k))) i && !memS [(((p + k : Nat) : Int), (1 : Int))] i) = (memS (ints F) i && !decide (p ≤ i ∧ i < p + (k + 1)))
  rw [memS_normS _ i hi, mem_single (p + k) h]
  by_cases h1 : p ≤ i ∧ i < p + k
  · rw [decide_eq_true h1, decide_eq_true (show p ≤ i ∧ i < p + (k + 1) by omega)]; simp
  · by_cases h2 : i = p + k
    · rw [decide_eq_false h1, decide_eq_true (show p + k ≤ i ∧ i < p + k + 1 by omega), decide_eq_true (show p ≤ i ∧ i < p + (k + 1) by omega)]; simp
    · rw [decide_eq_false h1, decide_eq_false (show ¬ (p + k ≤ i ∧ i < p + k + 1) by omega), decide_eq_false (show ¬ (p ≤ i ∧ i < p + (k + 1)) by omega)]; simp
theorem leftK_at (F : List (Nat × Nat)) (p k : Nat) : memS (ints (leftK F p k)) (p + k) = memS (ints F) (p + k) := by
  by_cases h : p + k < 128
  · unfold leftK
    rw [memS_normS _ _ h, decide_eq_false (by omega)]
    simp
  · cases h1 : memS (ints (leftK F p k)) (p + k) with
    | true => exact absurd (memS_lt _ _ h1) h
    | false =>
      cases h2 : memS (ints F) (p + k) with
      | true => exact absurd (memS_lt _ _ h2) h
      | false => rfl
theorem mem_nat (a b : Nat) (h : a + b ≤ 128) (i : Nat) : memS [((a : Int), (b : Int))] i = decide (a ≤ i ∧ i < a + b) := by
  cases b with
  | zero =>
    rw [decide_eq_false (by omega)]
    show (inS (clipS ((a : Int), 0)) i || false) = false
    unfold clipS
    rw [if_pos (by simp)]
    simp [inS]
  | succ b =>
    show (inS (clipS ((a : Int), ((b + 1 : Nat) : Int))) i || false) = _
    rw [clipS_nat a (b + 1) h (by omega), Bool.or_false]
    rfl
theorem memS_append2 (a b : List (Int × Int)) (i : Nat) : memS (a ++ b) i = (memS a i || memS b i) := by simp [memS]
theorem leftK_ext (I : List (Nat × Nat)) (x : Nat × Nat) (f : List (Int × Int)) (k : Nat) (hb : x.1 + (x.2 + k) ≤ 128) :
    leftK (extF (I ++ [x]) f) (x.1 + x.2) k = extF (extL I x k) (ints (extF (I ++ [x]) f)) := by
  unfold leftK
  show _ = normS fun i => memS (ints (extF (I ++ [x]) f)) i && !memS (ints (extL I x k)) i
  refine normS_congr (fun i hi => ?_)
  cases hF : memS (ints (extF (I ++ [x]) f)) i with
  | false => rfl
  | true =>
    have h1 : memS (ints (I ++ [x])) i = false := by
      unfold extF at hF
      rw [memS_normS _ i hi] at hF
      cases h : memS (ints (I ++ [x])) i with
      | false => rfl
      | true => rw [h] at hF; simp at hF
    rw [ints_append, memS_append2] at h1
    have h2 : memS (ints I) i = false := by cases h : memS (ints I) i with | false => rfl | true => rw [h] at h1; simp at h1
    have h3 : memS (ints [x]) i = false := by cases h : memS (ints [x]) i with | false => rfl | true => rw [h] at h1; simp at h1
    obtain ⟨a, b⟩ := x
    have h3' : memS [((a : Int), (b : Int))] i = false := h3
    simp only at hb
    rw [mem_nat a b (by omega)] at h3'
    have h4 := of_decide_eq_false h3'
    unfold extL
    rw [ints_append, memS_append2, h2, Bool.false_or]
    show (true && !decide (a + b ≤ i ∧ i < a + b + k)) = (true && !memS [((a : Int), ((b + k : Nat) : Int))] i)
    rw [mem_nat a (b + k) (by omega)]
    congr 2
    rw [decide_eq_decide]
    omega
set_option maxRecDepth 100000 in
set_option maxHeartbeats 1000000 in
theorem rminus_any (A1 A2 : Option Addr) (c1 c2 : Nat) (l1 l2 : List (Int × Int)) (w : World) (B : Nat) (hB : B ≤ w.heap.size) (hl1 : l1.length ≤ 1000000) (hl2 : l2.length ≤ 1000000) (hr1 : RunsAt w B A1 l1) (hr2 : RunsAt w B A2 l2) :
    Calls Try.prog 46 #[.slice A1 l1.length c1, .slice A2 l2.length c2] w fun e w' => ∃ v, e = .returned v ∧ OwnL w' w.heap.size 25 2 v ((normS fun i => memS l1 i && !memS l2 i).map rowN) ∧ Grew w w' := by
  have HC := Lib.hid (set_one A1 A2 c1 c2 l1 l2 w B hB hl1 hl2 hr1 hr2)
  clear hr1 hr2 hl1 hl2
  go_enter Try.func46, Try.ntmps46
  go_wp2_with fail
  refine HC.out.mono ?_
  rintro e w1 ⟨v, rfl, hown, g⟩
  go_wp2_with fail
  go_ret
  exact ⟨_, rfl, hown, g⟩
end Go.Proofs.Ytenbcjlikoajdaa
