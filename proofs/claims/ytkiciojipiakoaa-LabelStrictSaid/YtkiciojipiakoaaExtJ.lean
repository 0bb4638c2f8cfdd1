/- The reference's Set and Normal. -/
import Derived.Test.YtkiciojipiakoaaExtI
namespace Go.Proofs.Ytkiciojipiakoaa
set_option linter.unusedVariables false
set_option linter.unusedSimpArgs false
set_option linter.unusedSectionVars false
open Go.RowKit
theorem normTo_congr {S T : Nat → Bool} : ∀ k, (∀ i, i < k → S i = T i) → normTo S k = normTo T k := by
  intro k
  induction k with
  | zero => intro _; rfl
  | succ k ih =>
    intro h
    rw [normTo, normTo, ih (fun i hi => h i (by omega)), stepN, stepN, h k (by omega)]
    by_cases hk : 0 < k
    · rw [h (k - 1) (by omega)]
    · have e1 : ¬ (0 < k ∧ S (k - 1) = true) := fun h => hk h.1
      have e2 : ¬ (0 < k ∧ T (k - 1) = true) := fun h => hk h.1
      rw [if_neg e1, if_neg e2]
theorem info_bool : (Try.prog.info? 4).map (fun i => (i.zero, i.size, i.bytes)) = some (some (.bool false), 1, 1) := by kernel_rfl
theorem hasS_range (F : Nat → Bool) (n i : Nat) (h : i < n) : hasS ((List.range n).map F) i = F i := by
  rw [hasS_at _ _ (by simpa using h)]; simp
end Go.Proofs.Ytkiciojipiakoaa
