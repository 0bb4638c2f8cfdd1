/- The walks of ExtentSizes, ExtentEqual and ExtentParts. -/
import Derived.Test.YtenbcjlikoajdaaExtLA
namespace Go.Proofs.Ytenbcjlikoajdaa
set_option linter.unusedVariables false
set_option linter.unusedSimpArgs false
set_option linter.unusedSectionVars false
open Go.RowKit
theorem runC_len (k : List (Int × Int)) : ∀ r ∈ k.map runC, r.length = 2 := by
  intro r hr
  obtain ⟨x, _, rfl⟩ := List.mem_map.1 hr
  rfl
theorem runC_one (k : List (Int × Int)) : ∀ r ∈ k.map runC, r.all (·.oneCell') = true := by
  intro r hr
  obtain ⟨x, _, rfl⟩ := List.mem_map.1 hr
  rfl
theorem sizeS_append (a b : List (Int × Int)) : sizeS (a ++ b) = sizeS a + sizeS b := by simp [sizeS]
theorem memS_append (a b : List (Int × Int)) (i : Nat) : memS (a ++ b) i = (memS a i || memS b i) := by simp [memS]
section
variable (p q : Nat → Bool)
theorem parts_mem (i : Nat) (hi : i < 128) : memS (ints (normS fun i => p i && q i) ++ ints (normS fun i => p i && !q i) ++ ints (normS fun i => q i && !p i)) i = (p i || q i) := by
  rw [memS_append, memS_append, memS_normS _ i hi, memS_normS _ i hi, memS_normS _ i hi]
  cases p i <;> cases q i <;> rfl
theorem parts_norm : normS (memS (ints (normS fun i => p i && q i) ++ ints (normS fun i => p i && !q i) ++ ints (normS fun i => q i && !p i))) = normS fun i => p i || q i :=
  normS_congr (parts_mem p q)
theorem parts_disj : (seqS (ints (normS fun i => p i && q i) ++ ints (normS fun i => p i && !q i) ++ ints (normS fun i => q i && !p i))).Nodup := by
  rw [← disjS, parts_norm, sizeS_append, sizeS_append, sizeS_normS, sizeS_normS, sizeS_normS, sizeS_normS]
  exact count_parts p q _
theorem sizes_sum : sizeS (ints (normS fun i => p i || q i)) + sizeS (ints (normS fun i => p i && q i)) = sizeS (ints (normS p)) + sizeS (ints (normS q)) := by
  rw [sizeS_normS, sizeS_normS, sizeS_normS, sizeS_normS]
  exact count_or p q _
theorem minus_union : (normS fun i => memS (ints (normS fun i => p i || q i)) i && !memS (ints (normS q)) i) = normS fun i => p i && !q i :=
  normS_congr fun i hi => by rw [memS_normS _ i hi, memS_normS _ i hi]; cases p i <;> cases q i <;> rfl
end
end Go.Proofs.Ytenbcjlikoajdaa
