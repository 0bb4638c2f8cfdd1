/- The walks of ExtentNormal, ExtentCuts, ExtentSets and ExtentLists. -/
import Derived.Test.YtenbcjlikoajdaaExtS
namespace Go.Proofs.Ytenbcjlikoajdaa
set_option linter.unusedVariables false
set_option linter.unusedSimpArgs false
set_option linter.unusedSectionVars false
open Go.RowKit
theorem normS_vlen (S : Nat → Bool) {k : List (Int × Int)} (h : ints (normS S) = k) : k.length ≤ 128 := by subst h; rw [ints_len]; exact normS_len S
theorem joinS_vlen (l : List (Int × Int)) {k : List (Int × Int)} (h : ints (joinS l) = k) : k.length ≤ l.length := by subst h; rw [ints_len]; exact joinS_len l
theorem cutA_vlen (l : List (Int × Int)) (n : Nat) : (ints (cutA l n)).length = l.length := by rw [ints_len, cutA_len]
theorem cutB_vlen (l : List (Int × Int)) (n : Nat) : (ints (cutB l n)).length = l.length := by rw [ints_len, cutB_len]
end Go.Proofs.Ytenbcjlikoajdaa
