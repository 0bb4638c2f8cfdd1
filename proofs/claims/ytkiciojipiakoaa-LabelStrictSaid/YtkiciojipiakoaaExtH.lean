/- The reference's set. -/
import Derived.Test.YtkiciojipiakoaaExtG
namespace Go.Proofs.Ytkiciojipiakoaa
set_option linter.unusedVariables false
set_option linter.unusedSimpArgs false
set_option linter.unusedSectionVars false
open Go.RowKit
def boolC (b : Bool) : List Value := [.bool b]
def hasS (l : List Bool) (i : Nat) : Bool := l.getD i false
theorem hasS_at (l : List Bool) (i : Nat) (h : i < l.length) : hasS l i = l[i] := by simp [hasS, List.getD, h]
end Go.Proofs.Ytkiciojipiakoaa
