/- mix: two sets by a table. -/
import Derived.Test.YtkiciojipiakoaaExtF
import Derived.Deep.RegionHeld3
import Derived.Deep.RegionWith
namespace Go.Proofs.Ytkiciojipiakoaa
set_option linter.unusedVariables false
set_option linter.unusedSimpArgs false
set_option linter.unusedSectionVars false
open Go.RowKit
theorem mix_step (k i : Nat) (r : Bool) (F : Nat → Bool) (h : F k = r) : (if i = k then r else if i < k then F i else false) = (if i < k + 1 then F i else false) := by
  by_cases hi : i = k
  · subst hi; rw [if_pos rfl, if_pos (by omega), h]
  · rw [if_neg hi]
    by_cases hk : i < k
    · rw [if_pos hk, if_pos (by omega)]
    · rw [if_neg hk, if_neg (by omega)]
def tbS (t : Bool × Bool × Bool × Bool) (x y : Bool) : Bool := if x then (if y then t.2.2.2 else t.2.2.1) else (if y then t.2.1 else t.1)
end Go.Proofs.Ytkiciojipiakoaa
