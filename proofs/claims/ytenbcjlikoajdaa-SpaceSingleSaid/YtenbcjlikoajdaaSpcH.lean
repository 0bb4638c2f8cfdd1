/- Chapter 6: the contracts by value, and awake. -/
import Derived.Test.YtenbcjlikoajdaaSpcG
import Derived.Test.YtenbcjlikoajdaaExtM
namespace Go.Proofs.Ytenbcjlikoajdaa
set_option linter.unusedVariables false
set_option linter.unusedSimpArgs false
set_option linter.unusedSectionVars false
open Go.RowKit
theorem blk_runs {w : World} {g : Nat} {cs : Array Value} {l : List (Int × Int)} (hb : Blk w g 25 cs) (hc : cs.toList = (l.map runC).flatten) (hok : ∀ r ∈ l, okRun r) : RunsAt w w.heap.size (some ⟨g, 0, none⟩) l := by
  refine ⟨hok, fun _ => ⟨g, 0, rfl, hb.lt, fun j c hj i v hi => ?_⟩⟩
  have h := flatten_at (sz := 2) (rows := l.map runC) (fun r hr => by obtain ⟨x, _, rfl⟩ := List.mem_map.1 hr; rfl) j i c v hj hi
  rw [← hc] at h
  rw [hb.cell, Nat.zero_add, ← Array.getElem?_toList]
  exact h
section
variable {A : Option Addr} {c m : Nat} {l : List (Int × Int)} {w : World}
theorem best_val (hn : m = l.length) (hl : l.length ≤ 1000000) (hr : RunsAt w w.heap.size A l) (n : Int) (n0 : -9223372036854775808 ≤ n) (n1 : n ≤ 9223372036854775807) (a b : Int) (ok : Bool) (h : bestS (memS l) n = ((a, b), ok)) :
    Calls Try.prog 12 #[.slice A m c, .int .i64 n] w fun e w' => e = .returned (.tuple #[.agg #[.int .i64 a, .int .i64 b], .bool ok]) ∧ Grew w w' := by
  subst hn
  have := best_any A c l w w.heap.size (Nat.le_refl _) hl hr n n0 n1
  rw [h] at this
  exact this
theorem rbest_val (hn : m = l.length) (hl : l.length ≤ 1000000) (hr : RunsAt w w.heap.size A l) (n : Int) (n0 : -9223372036854775808 ≤ n) (n1 : n ≤ 9223372036854775807) (a b : Int) (ok : Bool) (h : bestS (memS l) n = ((a, b), ok)) :
    Calls Try.prog 13 #[.slice A m c, .int .i64 n] w fun e w' => e = .returned (.tuple #[.agg #[.int .i64 a, .int .i64 b], .bool ok]) ∧ Grew w w' := by
  subst hn
  have := rbest_any A c l w w.heap.size (Nat.le_refl _) hl hr n n0 n1
  rw [h] at this
  exact this
theorem alloc_val (hn : m = l.length) (hl : l.length ≤ 1000000) (hr : RunsAt w w.heap.size A l) (n : Int) (n0 : -9223372036854775808 ≤ n) (n1 : n ≤ 9223372036854775807) (most : Int) (k : List (Int × Int)) (er : Int) (hk : ints (allocS (memS l) n most).1 = k) (he : (allocS (memS l) n most).2 = er) :
    Calls Try.prog 14 #[.slice A m c, .int .i64 n, .int .i64 most] w fun e w' => ∃ A c, e = .returned (.tuple #[.slice A k.length c, .int .i64 er]) ∧ RunsAt w' w'.heap.size A k ∧ Grew w w' := by
  subst hn; subst hk; subst he
  refine (alloc_any A c l w w.heap.size (Nat.le_refl _) hl hr n n0 n1 most).mono ?_
  rintro e w1 ⟨v, rfl, hown, g1⟩
  obtain ⟨A', c', hv, hr'⟩ := own_runs hown (fun r hr => Nat.le_trans (alloc_bd _ _ _ r hr) (by omega))
  exact ⟨A', c', by rw [hv], hr', g1⟩
theorem ralloc_val (hn : m = l.length) (hl : l.length ≤ 1000000) (hr : RunsAt w w.heap.size A l) (n : Int) (n0 : -9223372036854775808 ≤ n) (n1 : n ≤ 9223372036854775807) (most : Int) (k : List (Int × Int)) (er : Int) (hk : ints (allocS (memS l) n most).1 = k) (he : (allocS (memS l) n most).2 = er) :
    Calls Try.prog 15 #[.slice A m c, .int .i64 n, .int .i64 most] w fun e w' => ∃ A c, e = .returned (.tuple #[.slice A k.length c, .int .i64 er]) ∧ RunsAt w' w'.heap.size A k ∧ Grew w w' := by
  subst hn; subst hk; subst he
  refine (ralloc_any A c l w w.heap.size (Nat.le_refl _) hl hr n n0 n1 most).mono ?_
  rintro e w1 ⟨v, rfl, hown, g1⟩
  obtain ⟨A', c', hv, hr'⟩ := own_runs hown (fun r hr => Nat.le_trans (alloc_bd _ _ _ r hr) (by omega))
  exact ⟨A', c', by rw [hv], hr', g1⟩
end
theorem extG_bd (I : List (Nat × Nat)) (x : Nat × Nat) (f : List (Int × Int)) (nn k : Nat) (hb : ∀ r ∈ extL I x k, r.1 + r.2 ≤ 128) : ∀ r ∈ (extG I x f nn k).1, r.1 + r.2 ≤ 128 := by
  unfold extG
  split
  · exact hb
  · split
    · intro r hr; cases hr
    · split
      · intro r hr; cases hr
      · exact joinS_bd _
/-- What Extend returns lies on the volume, and how many tracks there are of the last run. -/
theorem extS_cases (e f : List (Int × Int)) (n : Int) : (extS e f n = ([], 1)) ∨ ∃ I x k, joinS e = I ++ [x] ∧ 1 ≤ n ∧ k ≤ n.toNat ∧ (∀ j, j < k → memS (ints (extF (I ++ [x]) f)) (x.1 + x.2 + j) = true) ∧ (k = n.toNat ∨ memS (ints (extF (I ++ [x]) f)) (x.1 + x.2 + k) = false) ∧ extS e f n = extG I x f n.toNat k := by
  by_cases h1 : n < 1
  · exact .inl (by unfold extS; rw [if_pos (.inl h1)])
  · rcases last_cases (joinS e) with h0 | ⟨I, x, hL⟩
    · exact .inl (by unfold extS; rw [if_pos (.inr h0)])
    · obtain ⟨nn, rfl⟩ : ∃ nn : Nat, n = (nn : Int) := ⟨n.toNat, by omega⟩
      obtain ⟨k, hk, hall, hend⟩ : ∃ k, k ≤ nn ∧ (∀ j, j < k → memS (ints (extF (I ++ [x]) f)) (x.1 + x.2 + j) = true) ∧ (k = nn ∨ memS (ints (extF (I ++ [x]) f)) (x.1 + x.2 + k) = false) := by
        generalize memS (ints (extF (I ++ [x]) f)) = S
        clear h1
        induction nn with
        | zero => exact ⟨0, Nat.le_refl _, fun j hj => by omega, .inl rfl⟩
        | succ nn ih =>
          obtain ⟨k, hk, hall, hend⟩ := ih
          rcases hend with rfl | hend
          · cases hs : S (x.1 + x.2 + k) with
            | false => exact ⟨k, by omega, hall, .inr hs⟩
            | true =>
              refine ⟨k + 1, Nat.le_refl _, fun j hj => ?_, .inl rfl⟩
              by_cases hjk : j = k
              · subst hjk; exact hs
              · exact hall j (by omega)
          · exact ⟨k, by omega, hall, .inr hend⟩
      exact .inr ⟨I, x, k, hL, by omega, hk, hall, hend, extS_eq e f nn I x k hL (by omega) hk hall hend⟩
theorem extS_bd (e f : List (Int × Int)) (n : Int) : ∀ r ∈ (extS e f n).1, r.1 + r.2 ≤ 128 := by
  rcases extS_cases e f n with h | ⟨I, x, k, hL, _, _, hall, _, h⟩
  · rw [h]; intro r hr; cases hr
  · rw [h]
    exact extG_bd I x f _ k (ext_bd I x _ k (by rw [← hL]; exact joinS_bd e) hall)
theorem extend_val {A1 A2 : Option Addr} {c1 c2 m1 m2 : Nat} {l1 l2 : List (Int × Int)} {w : World} (hn1 : m1 = l1.length) (hn2 : m2 = l2.length) (hl1 : l1.length ≤ 1000) (hl2 : l2.length ≤ 1000000) (hr1 : RunsAt w w.heap.size A1 l1) (hr2 : RunsAt w w.heap.size A2 l2) (n : Int) (n0 : -9223372036854775808 ≤ n) (n1 : n ≤ 9223372036854775807) (k : List (Int × Int)) (er : Int) (hk : ints (extS l1 l2 n).1 = k) (he : (extS l1 l2 n).2 = er) :
    Calls Try.prog 17 #[.slice A1 m1 c1, .slice A2 m2 c2, .int .i64 n] w fun e w' => ∃ A c, e = .returned (.tuple #[.slice A k.length c, .int .i64 er]) ∧ RunsAt w' w'.heap.size A k ∧ Grew w w' := by
  subst hn1; subst hn2; subst hk; subst he
  refine (extend_any A1 A2 c1 c2 l1 l2 w w.heap.size (Nat.le_refl _) hl1 hl2 hr1 hr2 n n0 n1).mono ?_
  rintro e w1 ⟨v, rfl, hown, g1⟩
  obtain ⟨A', c', hv, hr'⟩ := own_runs hown (fun r hr => Nat.le_trans (extS_bd _ _ _ r hr) (by omega))
  exact ⟨A', c', by rw [hv], hr', g1⟩
def exR : List (Int × Int) := [(10, 4), (20, 2), (30, 3)]
theorem example_val (w : World) : Calls Try.prog 40 #[] w fun e w' => ∃ A c, e = .returned (.slice A 3 c) ∧ RunsAt w' w'.heap.size A exR ∧ Grew w w' := by
  go_enter Try.func40, Try.ntmps40
  go_wp2_with fail
  go_ret
  exact ⟨_, _, rfl, blk_runs (Blk.new w _ _ rfl) rfl (by simp [exR, okRun]), by (repeat' first | (with_reducible exact Grew.refl _) | (with_reducible assumption) | (with_reducible refine Grew.alloc ?_ _) | (with_reducible refine Grew.drew ?_) | (with_reducible refine Grew.drewN ?_ _) | (with_reducible refine Grew.setRow ?_ (by first | (simp; done) | (simp; omega) | omega) _) | (with_reducible refine Grew.setCell ?_ (by first | (simp; done) | (simp; omega) | omega) _) | ((with_reducible apply Grew.trans); rotate_left; (with_reducible assumption)) | ((with_reducible apply Grew.turn); rotate_left; (with_reducible assumption); (focus (intro i hi; first | omega | (simp at hi; omega)))) | fail)⟩
end Go.Proofs.Ytenbcjlikoajdaa
