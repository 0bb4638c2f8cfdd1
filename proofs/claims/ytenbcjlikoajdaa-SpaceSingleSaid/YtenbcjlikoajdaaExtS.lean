/- Chapter 5's contracts once more, each list under a name of its own. -/
import Derived.Test.YtenbcjlikoajdaaExtR
import Derived.Test.YtenbcjlikoajdaaApp
namespace Go.Proofs.Ytenbcjlikoajdaa
set_option linter.unusedVariables false
set_option linter.unusedSimpArgs false
set_option linter.unusedSectionVars false
open Go.RowKit
theorem back {w w' : World} {base : Nat} {v : Value} {l : List (Nat × Nat)} {k : List (Int × Int)} (hk : ints l = k) (hb : ∀ r ∈ l, r.1 + r.2 ≤ 128) (hown : OwnL w' base 25 2 v (l.map rowN)) (hg : Grew w w') :
    ∃ A c, (Ending.returned v) = .returned (.slice A k.length c) ∧ RunsAt w' w'.heap.size A k ∧ Grew w w' := by
  subst hk
  obtain ⟨A', c', hv, hr'⟩ := own_runs hown (fun r hr => Nat.le_trans (hb r hr) (by omega))
  exact ⟨A', c', by rw [hv], hr', hg⟩
section
variable {A : Option Addr} {c n : Nat} {l : List (Int × Int)} {w : World}
theorem refnormal_val (hn : n = l.length) (hl : l.length ≤ 1000000) (hr : RunsAt w w.heap.size A l) (k : List (Int × Int)) (hk : ints (normS (memS l)) = k) :
    Calls Try.prog 41 #[.slice A n c] w fun e w' => ∃ A c, e = .returned (.slice A k.length c) ∧ RunsAt w' w'.heap.size A k ∧ Grew w w' := by
  subst hn
  refine (refnormal_any A c l w w.heap.size (Nat.le_refl _) hl hr).mono ?_
  rintro e w1 ⟨v, rfl, hown, g1⟩
  exact back hk (normS_bd _) hown g1
theorem refjoin_val (hn : n = l.length) (hl : l.length ≤ 1000000) (hr : RunsAt w w.heap.size A l) (k : List (Int × Int)) (hk : ints (joinS l) = k) :
    Calls Try.prog 45 #[.slice A n c] w fun e w' => ∃ A c, e = .returned (.slice A k.length c) ∧ RunsAt w' w'.heap.size A k ∧ Grew w w' := by
  subst hn
  refine (refjoin_any A c l w w.heap.size (Nat.le_refl _) hl hr).mono ?_
  rintro e w1 ⟨v, rfl, hown, g1⟩
  exact back hk (joinS_bd _) hown g1
theorem cut_val (hn : n = l.length) (hl : l.length ≤ 100000) (hr : RunsAt w w.heap.size A l) (m : Int) (m0 : -9223372036854775808 ≤ m) (m1 : m ≤ 9223372036854775807) (k1 k2 : List (Int × Int)) (hk1 : ints (joinS (ints (cutA l m.toNat))) = k1) (hk2 : ints (joinS (ints (cutB l m.toNat))) = k2) :
    Calls Try.prog 35 #[.slice A n c, .int .i64 m] w fun e w' => ∃ A1 c1 A2 c2, e = .returned (.tuple #[.slice A1 k1.length c1, .slice A2 k2.length c2]) ∧ RunsAt w' w'.heap.size A1 k1 ∧ RunsAt w' w'.heap.size A2 k2 ∧ Grew w w' := by
  subst hn
  refine (cut_any A c l w w.heap.size (Nat.le_refl _) hl hr m m.toNat m0 m1 rfl).mono ?_
  rintro e w1 ⟨v1, v2, rfl, h1, h2, g1⟩
  obtain ⟨A1, c1, e1, r1, -⟩ := back hk1 (joinS_bd _) h1 g1
  obtain ⟨A2, c2, e2, r2, -⟩ := back hk2 (joinS_bd _) h2 g1
  injection e1 with e1
  injection e2 with e2
  exact ⟨A1, c1, A2, c2, by rw [e1, e2], r1, r2, g1⟩
theorem refcut_val (hn : n = l.length) (hl : l.length ≤ 100000) (hr : RunsAt w w.heap.size A l) (m : Int) (m0 : -9223372036854775808 ≤ m) (m1 : m ≤ 9223372036854775807) (k1 k2 : List (Int × Int)) (hk1 : ints (joinS (ints (cutA l m.toNat))) = k1) (hk2 : ints (joinS (ints (cutB l m.toNat))) = k2) :
    Calls Try.prog 55 #[.slice A n c, .int .i64 m] w fun e w' => ∃ A1 c1 A2 c2, e = .returned (.tuple #[.slice A1 k1.length c1, .slice A2 k2.length c2]) ∧ RunsAt w' w'.heap.size A1 k1 ∧ RunsAt w' w'.heap.size A2 k2 ∧ Grew w w' := by
  subst hn
  refine (refcut_any A c l w w.heap.size (Nat.le_refl _) hl hr m m.toNat m0 m1 rfl).mono ?_
  rintro e w1 ⟨v1, v2, rfl, h1, h2, g1⟩
  obtain ⟨A1, c1, e1, r1, -⟩ := back hk1 (joinS_bd _) h1 g1
  obtain ⟨A2, c2, e2, r2, -⟩ := back hk2 (joinS_bd _) h2 g1
  injection e1 with e1
  injection e2 with e2
  exact ⟨A1, c1, A2, c2, by rw [e1, e2], r1, r2, g1⟩
theorem size_val (hn : n = l.length) (hl : l.length ≤ 1000000) (hr : RunsAt w w.heap.size A l) (s : Nat) (hs : sizeS l = s) :
    Calls Try.prog 20 #[.slice A n c] w fun e w' => e = .returned (.int .i64 (s : Int)) ∧ Grew w w' := by
  subst hn; subst hs
  exact size_any A c l w w.heap.size (Nat.le_refl _) hl hr
theorem seq_val (hn : n = l.length) (hl : l.length ≤ 100000) (hr : RunsAt w w.heap.size A l) (s : Nat) (hs : sizeS l = s) :
    Calls Try.prog 54 #[.slice A n c] w fun e w' => ∃ A c, e = .returned (.slice A s c) ∧ Grew w w' := by
  subst hn
  refine (seq_any A c l w w.heap.size (Nat.le_refl _) hl hr).mono ?_
  rintro e w1 ⟨v, rfl, hown, g1⟩
  obtain ⟨A', c', hv, _⟩ := own_nats hown
  exact ⟨A', c', by rw [hv, seqS_len, hs], g1⟩
theorem index_val (hn : n = l.length) (hl : l.length ≤ 100000) (hr : RunsAt w w.heap.size A l) (t : Int) (t0 : -9223372036854775808 ≤ t) (t1 : t ≤ 9223372036854775807) (a : Int) (b : Bool) (h : idxS t l 0 = (a, b)) :
    Calls Try.prog 51 #[.slice A n c, .int .i64 t] w fun e w' => e = .returned (.tuple #[.int .i64 a, .bool b]) ∧ Grew w w' := by
  subst hn
  have := index_any A c l w w.heap.size (Nat.le_refl _) (by omega) hr t t0 t1
  rw [h] at this
  exact this
theorem contains_val (hn : n = l.length) (hl : l.length ≤ 1000000) (hr : RunsAt w w.heap.size A l) (t : Int) (t0 : -9223372036854775808 ≤ t) (t1 : t ≤ 9223372036854775807) (b : Bool) (h : inT l t = b) :
    Calls Try.prog 25 #[.slice A n c, .int .i64 t] w fun e w' => e = .returned (.bool b) ∧ Grew w w' := by
  subst hn; subst h
  have := contains_any A c l w w.heap.size (Nat.le_refl _) hl hr t t0 t1
  rwa [idxS_snd] at this
theorem in_val (hn : n = l.length) (hl : l.length ≤ 1000000) (hr : RunsAt w w.heap.size A l) (t : Int) (t0 : -9223372036854775808 ≤ t) (t1 : t ≤ 9223372036854775807) (b : Bool) (h : inT l t = b) :
    Calls Try.prog 47 #[.slice A n c, .int .i64 t] w fun e w' => e = .returned (.bool b) ∧ Grew w w' := by
  subst hn; subst h
  exact refin_any A c l w w.heap.size (Nat.le_refl _) hl hr t t0 t1
theorem valid_val (hn : n = l.length) (hl : l.length ≤ 1000000) (hr : RunsAt w w.heap.size A l) (b : Bool) (h : decide (l = ints (normS (memS l))) = b) :
    Calls Try.prog 24 #[.slice A n c] w fun e w' => e = .returned (.bool b) ∧ Grew w w' := by
  subst hn; subst h
  exact valid_any A c l w w.heap.size (Nat.le_refl _) hl hr
theorem disjoint_val (hn : n = l.length) (hl : l.length ≤ 1000000) (hr : RunsAt w w.heap.size A l) (b : Bool) (h : decide (seqS l).Nodup = b) :
    Calls Try.prog 21 #[.slice A n c] w fun e w' => e = .returned (.bool b) ∧ Grew w w' := by
  subst hn; subst h
  refine (disjoint_any A c l w w.heap.size (Nat.le_refl _) hl hr).mono ?_
  rintro e w1 ⟨rfl, g1⟩
  refine ⟨ret_bool ?_, g1⟩
  have := disjS l
  rw [Bool.eq_iff_iff, beq_iff_eq, decide_eq_true_eq, ← this]
  omega
end
section
variable {A1 A2 : Option Addr} {c1 c2 n1 n2 : Nat} {l1 l2 : List (Int × Int)} {w : World}
theorem union_val (hn1 : n1 = l1.length) (hn2 : n2 = l2.length) (hl1 : l1.length ≤ 1000000) (hl2 : l2.length ≤ 1000000) (hr1 : RunsAt w w.heap.size A1 l1) (hr2 : RunsAt w w.heap.size A2 l2) (k : List (Int × Int)) (hk : ints (normS fun i => memS l1 i || memS l2 i) = k) :
    Calls Try.prog 29 #[.slice A1 n1 c1, .slice A2 n2 c2] w fun e w' => ∃ A c, e = .returned (.slice A k.length c) ∧ RunsAt w' w'.heap.size A k ∧ Grew w w' := by
  subst hn1; subst hn2
  refine (union_any A1 A2 c1 c2 l1 l2 w w.heap.size (Nat.le_refl _) hl1 hl2 hr1 hr2).mono ?_
  rintro e w1 ⟨v, rfl, hown, g1⟩
  exact back hk (normS_bd _) hown g1
theorem common_val (hn1 : n1 = l1.length) (hn2 : n2 = l2.length) (hl1 : l1.length ≤ 1000000) (hl2 : l2.length ≤ 1000000) (hr1 : RunsAt w w.heap.size A1 l1) (hr2 : RunsAt w w.heap.size A2 l2) (k : List (Int × Int)) (hk : ints (normS fun i => memS l1 i && memS l2 i) = k) :
    Calls Try.prog 27 #[.slice A1 n1 c1, .slice A2 n2 c2] w fun e w' => ∃ A c, e = .returned (.slice A k.length c) ∧ RunsAt w' w'.heap.size A k ∧ Grew w w' := by
  subst hn1; subst hn2
  refine (common_any A1 A2 c1 c2 l1 l2 w w.heap.size (Nat.le_refl _) hl1 hl2 hr1 hr2).mono ?_
  rintro e w1 ⟨v, rfl, hown, g1⟩
  exact back hk (normS_bd _) hown g1
theorem minus_val (hn1 : n1 = l1.length) (hn2 : n2 = l2.length) (hl1 : l1.length ≤ 1000000) (hl2 : l2.length ≤ 1000000) (hr1 : RunsAt w w.heap.size A1 l1) (hr2 : RunsAt w w.heap.size A2 l2) (k : List (Int × Int)) (hk : ints (normS fun i => memS l1 i && !memS l2 i) = k) :
    Calls Try.prog 22 #[.slice A1 n1 c1, .slice A2 n2 c2] w fun e w' => ∃ A c, e = .returned (.slice A k.length c) ∧ RunsAt w' w'.heap.size A k ∧ Grew w w' := by
  subst hn1; subst hn2
  refine (minus_any A1 A2 c1 c2 l1 l2 w w.heap.size (Nat.le_refl _) hl1 hl2 hr1 hr2).mono ?_
  rintro e w1 ⟨v, rfl, hown, g1⟩
  exact back hk (normS_bd _) hown g1
theorem setall_val (hn1 : n1 = l1.length) (hn2 : n2 = l2.length) (hl1 : l1.length ≤ 1000000) (hl2 : l2.length ≤ 1000000) (hr1 : RunsAt w w.heap.size A1 l1) (hr2 : RunsAt w w.heap.size A2 l2) (k : List (Int × Int)) (hk : ints (normS fun i => memS l1 i || memS l2 i) = k) :
    Calls Try.prog 56 #[.slice A1 n1 c1, .slice A2 n2 c2, .bool true, .bool true, .bool true] w fun e w' => ∃ A c, e = .returned (.slice A k.length c) ∧ RunsAt w' w'.heap.size A k ∧ Grew w w' := by
  subst hn1; subst hn2
  refine (set_all A1 A2 c1 c2 l1 l2 w w.heap.size (Nat.le_refl _) hl1 hl2 hr1 hr2).mono ?_
  rintro e w1 ⟨v, rfl, hown, g1⟩
  exact back hk (normS_bd _) hown g1
theorem setboth_val (hn1 : n1 = l1.length) (hn2 : n2 = l2.length) (hl1 : l1.length ≤ 1000000) (hl2 : l2.length ≤ 1000000) (hr1 : RunsAt w w.heap.size A1 l1) (hr2 : RunsAt w w.heap.size A2 l2) (k : List (Int × Int)) (hk : ints (normS fun i => memS l1 i && memS l2 i) = k) :
    Calls Try.prog 56 #[.slice A1 n1 c1, .slice A2 n2 c2, .bool false, .bool false, .bool true] w fun e w' => ∃ A c, e = .returned (.slice A k.length c) ∧ RunsAt w' w'.heap.size A k ∧ Grew w w' := by
  subst hn1; subst hn2
  refine (set_both A1 A2 c1 c2 l1 l2 w w.heap.size (Nat.le_refl _) hl1 hl2 hr1 hr2).mono ?_
  rintro e w1 ⟨v, rfl, hown, g1⟩
  exact back hk (normS_bd _) hown g1
theorem setone_val (hn1 : n1 = l1.length) (hn2 : n2 = l2.length) (hl1 : l1.length ≤ 1000000) (hl2 : l2.length ≤ 1000000) (hr1 : RunsAt w w.heap.size A1 l1) (hr2 : RunsAt w w.heap.size A2 l2) (k : List (Int × Int)) (hk : ints (normS fun i => memS l1 i && !memS l2 i) = k) :
    Calls Try.prog 56 #[.slice A1 n1 c1, .slice A2 n2 c2, .bool true, .bool false, .bool false] w fun e w' => ∃ A c, e = .returned (.slice A k.length c) ∧ RunsAt w' w'.heap.size A k ∧ Grew w w' := by
  subst hn1; subst hn2
  refine (set_one A1 A2 c1 c2 l1 l2 w w.heap.size (Nat.le_refl _) hl1 hl2 hr1 hr2).mono ?_
  rintro e w1 ⟨v, rfl, hown, g1⟩
  exact back hk (normS_bd _) hown g1
end
end Go.Proofs.Ytenbcjlikoajdaa
