/- The laws' helper runs. -/
import Derived.Test.YtenbcjlikoajdaaExtK
import Derived.Test.YtenbcjlikoajdaaPush
namespace Go.Proofs.Ytenbcjlikoajdaa
set_option linter.unusedVariables false
set_option linter.unusedSimpArgs false
set_option linter.unusedSectionVars false
open Go.RowKit
def flatR (l : List (Int × Int)) : List Int := l.flatMap fun r => [r.1, r.2]
theorem flatR_len (l : List (Int × Int)) : (flatR l).length = 2 * l.length := by
  induction l with
  | nil => rfl
  | cons r l ih => simp only [flatR, List.flatMap_cons, List.length_append, List.length_cons, List.length_nil] at ih ⊢; omega
theorem flatR_at (l : List (Int × Int)) : ∀ k (h : k < l.length), (flatR l)[2 * k]? = some l[k].1 ∧ (flatR l)[2 * k + 1]? = some l[k].2 := by
  induction l with
  | nil => intro k h; simp at h
  | cons r l ih =>
    intro k h
    cases k with
    | zero => exact ⟨rfl, rfl⟩
    | succ k =>
      have := ih k (by simpa using h)
      simp only [flatR, List.flatMap_cons] at this ⊢
      exact ⟨this.1, this.2⟩
def intC (n : Int) : List Value := [.int .i64 n]
theorem own_runsI {w : World} {base : Nat} {v : Value} {l : List (Int × Int)} (h : OwnL w base 25 2 v (l.map runC)) (hb : ∀ r ∈ l, okRun r) :
    ∃ A c, v = .slice A l.length c ∧ RunsAt w w.heap.size A l := by
  obtain ⟨A, c, hv, _, _, hl⟩ := h.listAt
  exact ⟨A, c, by rw [hv, List.length_map], hb, hl⟩
end Go.Proofs.Ytenbcjlikoajdaa
