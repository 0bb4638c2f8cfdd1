/- The reference's In, Set, Normal; Valid and Disjoint. -/
import Derived.Test.YtkiciojipiakoaaExtH
namespace Go.Proofs.Ytkiciojipiakoaa
set_option linter.unusedVariables false
set_option linter.unusedSimpArgs false
set_option linter.unusedSectionVars false
open Go.RowKit
def inT (l : List (Int × Int)) (t : Int) : Bool := l.any fun r => decide (((clipS r).1 : Int) ≤ t ∧ t < ((clipS r).1 : Int) + (clipS r).2)
theorem inT_nat (l : List (Int × Int)) (i : Nat) : inT l i = memS l i := by
  unfold inT memS
  congr 1
  funext r
  unfold inS
  rw [decide_eq_decide]
  omega
theorem idxS_snd (t : Int) (l : List (Int × Int)) : ∀ n, (idxS t l n).2 = inT l t := by
  induction l with
  | nil => intro n; rfl
  | cons r l ih =>
    intro n
    rw [idxS]
    unfold inT
    rw [List.any_cons]
    split
    · rename_i h; simp [h]
    · rename_i h; rw [ih]; simp [h, inT]
theorem inT_snoc (l : List (Int × Int)) (k : Nat) (h : k < l.length) (t : Int) : inT (l.take (k + 1)) t = (inT (l.take k) t || decide (((clipS l[k]).1 : Int) ≤ t ∧ t < ((clipS l[k]).1 : Int) + (clipS l[k]).2)) := by
  unfold inT
  rw [List.take_succ_eq_append_getElem h, List.any_append]
  simp only [List.any_cons, List.any_nil, Bool.or_false]
theorem inT_mono (l : List (Int × Int)) (k : Nat) (t : Int) (h : inT (l.take k) t = true) : inT l t = true := by
  unfold inT at *
  rw [List.any_eq_true] at *
  obtain ⟨x, hx, h⟩ := h
  exact ⟨x, List.mem_of_mem_take hx, h⟩
section
variable (A : Option Addr) (c : Nat) (l : List (Int × Int)) (w : World) (B : Nat) (hB : B ≤ w.heap.size) (hl : l.length ≤ 1000000) (hr : RunsAt w B A l)
include hB hl hr
set_option maxRecDepth 100000 in
set_option maxHeartbeats 4000000 in
theorem disjoint_any : Calls Try.prog 38 #[.slice A l.length c] w fun e w' => e = .returned (.bool ((sizeS l : Int) == (sizeS (ints (normS (memS l))) : Int))) ∧ Grew w w' := by
  go_enter Try.func38, Try.ntmps38
  go_wp2_with fail
  refine (size_any A c l w B hB hl hr).mono ?_
  rintro e w1 ⟨rfl, g1⟩
  go_wp2_with fail
  refine (normal_any A c l w1 B (Nat.le_trans hB g1.size) hl (hr.keep hB g1)).mono ?_
  rintro e w2 ⟨v, rfl, hown, g2⟩
  obtain ⟨A', c', hv, hr'⟩ := own_runs hown (fun r hr => Nat.le_trans (normTo_bd _ _ r hr) (by omega))
  subst hv
  have hle : (normS (memS l)).length ≤ 128 := normTo_len _ _
  go_wp2_with fail
  refine (size_any A' c' _ w2 w2.heap.size (Nat.le_refl _) (by rw [ints_len]; omega) hr').mono ?_
  rintro e w3 ⟨rfl, g3⟩
  go_wp2_with fail
  go_ret
  exact ⟨rfl, g1.trans (g2.trans g3)⟩
end
end Go.Proofs.Ytkiciojipiakoaa
