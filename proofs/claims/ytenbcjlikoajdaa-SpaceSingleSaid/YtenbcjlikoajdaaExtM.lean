/- awake: the example of the chapter holds. -/
import Derived.Test.YtenbcjlikoajdaaExtL
namespace Go.Proofs.Ytenbcjlikoajdaa
set_option linter.unusedVariables false
set_option linter.unusedSimpArgs false
set_option linter.unusedSectionVars false
open Go.RowKit
instance (r : Int × Int) : Decidable (okRun r) := by unfold okRun; infer_instance
theorem listAt_blk {w : World} {g : Nat} {t : TypeId} {l : List Int} (h : Blk w g t (l.map fun n => Value.int .i64 n).toArray) : ListAt w w.heap.size 1 (some ⟨g, 0, none⟩) (l.map intC) := by
  intro _
  refine ⟨g, 0, rfl, h.lt, fun j cs hj i v hi => ?_⟩
  rw [List.getElem?_map] at hj
  cases hq : l[j]? with
  | none => rw [hq] at hj; cases hj
  | some n =>
    rw [hq] at hj
    injection hj with hj
    subst hj
    match i, hi with
    | 0, hi =>
      injection hi with hi
      subst hi
      rw [h.cell]
      simp [hq]
    | i + 1, hi => simp [intC] at hi
theorem RunsAt.hold {w w' : World} {A : Option Addr} {l : List (Int × Int)} (h : RunsAt w w.heap.size A l) (hg : Grew w w') : RunsAt w' w'.heap.size A l :=
  ⟨h.1, (h.2.keep (Nat.le_refl _) hg).mono hg.size⟩
theorem normal_val (A : Option Addr) (c n : Nat) (l : List (Int × Int)) (w : World) (hn : n = l.length) (hl : l.length ≤ 1000000) (hr : RunsAt w w.heap.size A l) (k : List (Int × Int)) (hk : ints (normS (memS l)) = k) :
    Calls Try.prog 37 #[.slice A n c] w fun e w' => ∃ A c, e = .returned (.slice A k.length c) ∧ RunsAt w' w'.heap.size A k ∧ Grew w w' := by
  subst hn
  subst hk
  refine (normal_any A c l w w.heap.size (Nat.le_refl _) hl hr).mono ?_
  rintro e w1 ⟨v, rfl, hown, g1⟩
  obtain ⟨A', c', hv, hr'⟩ := own_runs hown (fun r hr => Nat.le_trans (normTo_bd _ _ r hr) (by omega))
  exact ⟨A', c', by rw [hv], hr', g1⟩
theorem join_val (A : Option Addr) (c n : Nat) (l : List (Int × Int)) (w : World) (hn : n = l.length) (hl : l.length ≤ 1000000) (hr : RunsAt w w.heap.size A l) (k : List (Int × Int)) (hk : ints (joinS l) = k) :
    Calls Try.prog 28 #[.slice A n c] w fun e w' => ∃ A c, e = .returned (.slice A k.length c) ∧ RunsAt w' w'.heap.size A k ∧ Grew w w' := by
  subst hn
  subst hk
  refine (join_any A c l w w.heap.size (Nat.le_refl _) hl hr).mono ?_
  rintro e w1 ⟨v, rfl, hown, g1⟩
  obtain ⟨A', c', hv, hr'⟩ := own_runs hown (fun r hr => Nat.le_trans (joinS_bd _ r hr) (by omega))
  exact ⟨A', c', by rw [hv], hr', g1⟩
theorem same_val (A1 A2 : Option Addr) (c1 c2 n1 n2 : Nat) (l1 l2 : List (Int × Int)) (w : World) (hn1 : n1 = l1.length) (hn2 : n2 = l2.length) (hl1 : l1.length ≤ 1000000) (hl2 : l2.length ≤ 1000000) (hr1 : RunsAt w w.heap.size A1 l1) (hr2 : RunsAt w w.heap.size A2 l2) (b : Bool) (hb : decide (l1 = l2) = b) :
    Calls Try.prog 16 #[.slice A1 n1 c1, .slice A2 n2 c2] w fun e w' => e = .returned (.bool b) ∧ Grew w w' := by
  subst hn1; subst hn2; subst hb
  exact same_any A1 A2 c1 c2 l1 l2 w w.heap.size (Nat.le_refl _) hl1 hl2 hr1 hr2
def aw1 : List (Int × Int) := [(5, 2), (7, 1), (3, 2)]
def aw2 : List (Int × Int) := [(5, 2), (3, 2), (9, 1), (-1, 2)]
def aw3 : List (Int × Int) := [(0, 1), (3, 4), (9, 1)]
def aw4 : List (Int × Int) := [(5, 3), (3, 2)]
set_option maxRecDepth 100000 in
theorem aw_at : (if (3 : Int) < 0 then (0, false) else atS aw1 3) = (3, true) := by decide +kernel
set_option maxRecDepth 100000 in
theorem aw_normal : ints (normS (memS aw2)) = aw3 := by decide +kernel
set_option maxRecDepth 100000 in
theorem aw_join : ints (joinS aw1) = aw4 := by decide +kernel
end Go.Proofs.Ytenbcjlikoajdaa
