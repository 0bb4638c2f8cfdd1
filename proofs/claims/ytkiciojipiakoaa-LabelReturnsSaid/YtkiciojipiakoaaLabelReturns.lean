/- LabelReturns returns true for any label and every number of tracks, and nothing that was there is changed. No condition. -/
import Derived.Test.YtkiciojipiakoaaLabR
namespace Go.Proofs.Ytkiciojipiakoaa
set_option linter.unusedVariables false
set_option linter.unusedSimpArgs false
set_option linter.unusedSectionVars false
open Go.ChangeShapes Go.WideShapes Go.ChangeAt Go.RowKit Go.ChangeMaps
set_option maxRecDepth 100000 in
theorem labelReturns_lifted (os : Os) (started : os.Started) (H : Type) (enc : TypeId × Value → H) :
    ReturnsInHanded {} Try.checked os 7 .any (Rows.labelReturnsSpec.pre6 enc Try.prog Try.f7 Rows.labelReturnsRow.domain false) (Rows.labelReturnsSpec.post enc Try.prog Try.f7 false true false false) := by
  refine returnsInHanded_of_change (C := Try.checked) (by kernel_rfl) started (by kernel_rfl) Try.func7
    (ChangeSpec.witness6 (enc := enc) (C := Try.checked) false ⟨#[], #[.agg #[.int .i64 0, .int .i64 0, .string ⟨#[]⟩, .string ⟨#[]⟩, .slice none 0 0], .int .i64 0], []⟩ 8 (by kernel_rfl) (by kernel_rfl) (by kernel_rfl) (by kernel_rfl)) ?_
  intro W base args ds gs before hval0 hW hcnd _
  have hval : ∀ (j : Nat) t v, Try.f7.params[j]? = some t → args[j]? = some v → Value.okWide Try.prog W .any base t v := hval0
  have hW' := hW
  obtain ⟨p, q, hA0, hV, rfl, hfz, hnd⟩ := hW
  have hA : DataW.TrodAll enc Try.prog W 0 (fun _ => true) true Try.f7.params.toList args.toList ds p := hA0
  rw [Try.params7] at hA hval
  obtain ⟨v0, v1, d0, d1, p0, p1, rfl, rfl, rfl, h0, h1⟩ := trodAll_two hA
  obtain ⟨rfl, rfl⟩ := trodVars_none hV
  obtain ⟨A0, c0, l0, rfl, k0⟩ := open_label (hval 0 24 v0 rfl rfl) h0
  obtain ⟨b1, rfl, rfl, rfl, wb1⟩ := open_int Try.underlying3 (hval 1 3 v1 rfl rfl) h1
  simp only [Lit.wf, IntKind.min, IntKind.max, IntKind.signed, IntKind.bits] at wb1
  have s1 : -9223372036854775808 ≤ b1 ∧ b1 ≤ 9223372036854775807 := by simp at wb1; omega
  obtain ⟨a1, rfl⟩ : ∃ a, a = b1 := ⟨_, rfl⟩
  clear hA0 hval0
  refine (labelReturns_any A0 c0 l0 a1 s1.1 s1.2 W k0).mono fun e W' ⟨he, hg⟩ => ?_
  subst he
  exact ⟨_, rfl, law_post (by kernel_rfl) (by kernel_rfl) (by rfl) Try.underlying4 rfl hW' rfl hg⟩
theorem labelReturns_holds : Rows.LabelReturnsSaid :=
  OpenClaim.holds_of_wide 7 Try.f7 rfl rfl rfl rfl rfl rfl rfl ⟨rfl, rfl, rfl, rfl, rfl⟩ rfl rfl rfl rfl rfl (by kernel_rfl) Try.func7 (by kernel_rfl)
    (of_decide_eq_true (by kernel_rfl)) (by unfold Func.isWrapper; first | (rw [if_pos (by decide +kernel)]; kernel_rfl) | (rw [if_neg (by decide +kernel)]; exact ⟨rfl, rfl⟩))
    (fun os started H enc _ => labelReturns_lifted os started H enc)
end Go.Proofs.Ytkiciojipiakoaa
