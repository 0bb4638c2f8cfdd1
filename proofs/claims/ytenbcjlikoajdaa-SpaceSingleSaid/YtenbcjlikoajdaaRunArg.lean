/- The lists of runs that the laws take. -/
import Derived.Test.YtenbcjlikoajdaaRow
namespace Go.Proofs.Ytenbcjlikoajdaa
set_option linter.unusedVariables false
set_option linter.unusedSimpArgs false
set_option linter.unusedSectionVars false
open Go.ChangeShapes Go.WideShapes Go.ChangeAt Go.RowKit Go.Deep
theorem wf_i64 {n : Int} (h : (Lit.int .i64 n).wf = true) : -9223372036854775808 ≤ n ∧ n ≤ 9223372036854775807 := by
  simp [Lit.wf, IntKind.min, IntKind.max, IntKind.signed, IntKind.bits] at h; omega
theorem open_runs {H : Type} {enc : TypeId × Value → H} {w : World} {r : Reach} {b0 : Nat} {v : Value} {d : DataW H} {ps : List MemPlace}
    (hv : Value.okWide Try.prog w r b0 22 v) (hd : DataW.Trod enc Try.prog w 0 (fun _ => true) true 22 v d ps) :
    ∃ A c, ∃ l : List (Int × Int), v = .slice A l.length c ∧ l.length ≤ c ∧ c ≤ 9223372036854775807 ∧ RunsAt w w.heap.size A l := by
  obtain ⟨A, c, l, rfl, h1, h2, h3, h4⟩ := open_list (α := Int × Int) (sz := 2) Try.underlying22 (by kernel_rfl) (by omega) runC okRun (fun n cs y hlen h => by
      have hf := struct_fields Try.underlying25 (by kernel_rfl) h
      obtain ⟨v0, _, _, e0, f0⟩ := hf 0 _ rfl (by omega)
      obtain ⟨v1, _, _, e1, f1⟩ := hf 1 _ rfl (by omega)
      obtain ⟨n0, hn0, _, w0⟩ := DataW.trod_int Try.underlying3 f0
      obtain ⟨n1, hn1, _, w1⟩ := DataW.trod_int Try.underlying3 f1
      injection hn0 with hn0 _
      injection hn1 with hn1 _
      subst hn0; subst hn1
      have b0 := wf_i64 w0
      have b1 := wf_i64 w1
      refine ⟨(n0, n1), ⟨b0.1, b0.2, b1.1, b1.2⟩, ?_⟩
      match cs, hlen with
      | [x0, x1], _ =>
        simp at e0 e1
        rw [e0, e1]
        rfl) hv hd
  exact ⟨A, c, l, rfl, h1, h2, h3, h4⟩
end Go.Proofs.Ytenbcjlikoajdaa
