/- Chapter 6, plain: a consolidated run. -/
import Derived.Test.YtenbcjlikoajdaaSpcP
import Derived.Test.YtenbcjlikoajdaaSpcK
import Derived.Test.YtenbcjlikoajdaaSpcR
namespace Go.Proofs.Ytenbcjlikoajdaa
set_option linter.unusedVariables false
set_option linter.unusedSimpArgs false
set_option linter.unusedSectionVars false
open Go.RowKit
/-- The best run of a set: tracks of it. -/
theorem best_ok (S : Nat → Bool) (n : Int) (a b : Int) (h : bestS S n = ((a, b), true)) :
    b = n ∧ 1 ≤ n ∧ ∃ f d : Nat, a = (f : Int) ∧ n = (d : Int) ∧ f + d ≤ 128 ∧ ∀ i, f ≤ i → i < f + d → S i = true := by
  unfold bestS at h
  split at h
  · injection h with _ h; cases h
  · rename_i hc
    injection h with h _
    injection h with h1 h2
    have hn : 1 ≤ n := by omega
    have hb : (bestF n (normS S)).2 ≠ 0 := fun e => hc (.inr e)
    rcases bestF_mem n (normS S) with h0 | ⟨hm, hle⟩
    · rw [h0] at hb; exact absurd rfl hb
    · have hbd := normS_bd S _ hm
      refine ⟨h2.symm, hn, (bestF n (normS S)).1, n.toNat, h1.symm, by omega, by omega, fun i hi1 hi2 => ?_⟩
      have hi : i ∈ seqL (normS S) := by
        unfold seqL
        exact List.mem_flatMap.2 ⟨_, hm, (mem_seqN _ i).2 ⟨hi1, by omega⟩⟩
      rw [seqL_norm] at hi
      exact (List.mem_filter.1 hi).2
theorem best_none (S : Nat → Bool) (n : Int) (a b : Int) (h : bestS S n = ((a, b), false)) : a = 0 ∧ b = 0 := by
  unfold bestS at h
  split at h
  · injection h with h _
    injection h with h1 h2
    exact ⟨h1.symm, h2.symm⟩
  · injection h with _ h; cases h
end Go.Proofs.Ytenbcjlikoajdaa
