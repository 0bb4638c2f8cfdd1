/- Cut: the program's. -/
import Derived.Test.YtkiciojipiakoaaExtN
import Derived.Deep.DeepCutAuto
import Derived.Deep.CutBlock
namespace Go.Proofs.Ytkiciojipiakoaa
set_option linter.unusedVariables false
set_option linter.unusedSimpArgs false
set_option linter.unusedSectionVars false
open Go.RowKit
theorem min_cases (j nn : Nat) : min j nn = nn ∧ nn < j ∨ min j nn = j ∧ j ≤ nn := by omega
end Go.Proofs.Ytkiciojipiakoaa
