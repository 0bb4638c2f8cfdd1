/- Chapter 5's contracts once more, each list under a name of its own. -/
import Derived.Test.YtkiciojipiakoaaExtR
import Derived.Test.YtkiciojipiakoaaApp
namespace Go.Proofs.Ytkiciojipiakoaa
set_option linter.unusedVariables false
set_option linter.unusedSimpArgs false
set_option linter.unusedSectionVars false
open Go.RowKit
theorem back {w w' : World} {base : Nat} {v : Value} {l : List (Nat × Nat)} {k : List (Int × Int)} (hk : ints l = k) (hb : ∀ r ∈ l, r.1 + r.2 ≤ 128) (hown : OwnL w' base 43 2 v (l.map rowN)) (hg : Grew w w') :
    ∃ A c, (Ending.returned v) = .returned (.slice A k.length c) ∧ RunsAt w' w'.heap.size A k ∧ Grew w w' := by
  subst hk
  obtain ⟨A', c', hv, hr'⟩ := own_runs hown (fun r hr => Nat.le_trans (hb r hr) (by omega))
  exact ⟨A', c', by rw [hv], hr', hg⟩
section
variable {A : Option Addr} {c n : Nat} {l : List (Int × Int)} {w : World}
theorem refjoin_val (hn : n = l.length) (hl : l.length ≤ 1000000) (hr : RunsAt w w.heap.size A l) (k : List (Int × Int)) (hk : ints (joinS l) = k) :
    Calls Try.prog 44 #[.slice A n c] w fun e w' => ∃ A c, e = .returned (.slice A k.length c) ∧ RunsAt w' w'.heap.size A k ∧ Grew w w' := by
  subst hn
  refine (refjoin_any A c l w w.heap.size (Nat.le_refl _) hl hr).mono ?_
  rintro e w1 ⟨v, rfl, hown, g1⟩
  exact back hk (joinS_bd _) hown g1
theorem size_val (hn : n = l.length) (hl : l.length ≤ 1000000) (hr : RunsAt w w.heap.size A l) (s : Nat) (hs : sizeS l = s) :
    Calls Try.prog 59 #[.slice A n c] w fun e w' => e = .returned (.int .i64 (s : Int)) ∧ Grew w w' := by
  subst hn; subst hs
  exact size_any A c l w w.heap.size (Nat.le_refl _) hl hr
theorem seq_val (hn : n = l.length) (hl : l.length ≤ 100000) (hr : RunsAt w w.heap.size A l) (s : Nat) (hs : sizeS l = s) :
    Calls Try.prog 63 #[.slice A n c] w fun e w' => ∃ A c, e = .returned (.slice A s c) ∧ Grew w w' := by
  subst hn
  refine (seq_any A c l w w.heap.size (Nat.le_refl _) hl hr).mono ?_
  rintro e w1 ⟨v, rfl, hown, g1⟩
  obtain ⟨A', c', hv, _⟩ := own_nats hown
  exact ⟨A', c', by rw [hv, seqS_len, hs], g1⟩
theorem disjoint_val (hn : n = l.length) (hl : l.length ≤ 1000000) (hr : RunsAt w w.heap.size A l) (b : Bool) (h : decide (seqS l).Nodup = b) :
    Calls Try.prog 38 #[.slice A n c] w fun e w' => e = .returned (.bool b) ∧ Grew w w' := by
  subst hn; subst h
  refine (disjoint_any A c l w w.heap.size (Nat.le_refl _) hl hr).mono ?_
  rintro e w1 ⟨rfl, g1⟩
  refine ⟨ret_bool ?_, g1⟩
  have := disjS l
  rw [Bool.eq_iff_iff, beq_iff_eq, decide_eq_true_eq, ← this]
  omega
theorem refdisj_val (hn : n = l.length) (hl : l.length ≤ 100000) (hr : RunsAt w w.heap.size A l) (b : Bool) (h : decide (seqS l).Nodup = b) :
    Calls Try.prog 45 #[.slice A n c] w fun e w' => e = .returned (.bool b) ∧ Grew w w' := by
  subst hn; subst h
  exact refdisj_any A c l w w.heap.size (Nat.le_refl _) hl hr
end
section
variable {A1 A2 : Option Addr} {c1 c2 n1 n2 : Nat} {l1 l2 : List (Int × Int)} {w : World}
end
end Go.Proofs.Ytkiciojipiakoaa
