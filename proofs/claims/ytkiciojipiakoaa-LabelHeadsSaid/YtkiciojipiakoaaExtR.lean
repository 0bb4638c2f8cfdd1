/- The reference's Cut. -/
import Derived.Test.YtkiciojipiakoaaExtQ
import Derived.Test.YtkiciojipiakoaaExtNW
namespace Go.Proofs.Ytkiciojipiakoaa
set_option linter.unusedVariables false
set_option linter.unusedSimpArgs false
set_option linter.unusedSectionVars false
open Go.RowKit
end Go.Proofs.Ytkiciojipiakoaa
