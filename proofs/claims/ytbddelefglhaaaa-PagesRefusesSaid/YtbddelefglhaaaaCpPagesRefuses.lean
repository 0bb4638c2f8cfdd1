/- PagesRefuses returns true for all numbers of sectors and all lists of writes, and nothing that was there is changed. No condition. -/
import Derived.Test.YtbddelefglhaaaaCpL
namespace Go.Proofs.Ytbddelefglhaaaa
set_option linter.unusedVariables false
set_option linter.unusedSimpArgs false
set_option linter.unusedSectionVars false
open Go.ChangeShapes Go.WideShapes Go.ChangeAt Go.RowKit Go.ChangeMaps
set_option maxRecDepth 100000 in
theorem pagesRefuses_lifted (os : Os) (started : os.Started) (H : Type) (enc : TypeId × Value → H) :
    ReturnsInHanded {} Try.checked os 4 .any (Rows.pagesRefusesSpec.pre6 enc Try.prog Try.f4 Rows.pagesRefusesRow.domain false) (Rows.pagesRefusesSpec.post enc Try.prog Try.f4 false true false false) := by
  refine returnsInHanded_of_change (C := Try.checked) (by kernel_rfl) started (by kernel_rfl) Try.func4
    (ChangeSpec.witness6 (enc := enc) (C := Try.checked) false ⟨#[], #[.int .u8 0, .slice none 0 0], []⟩ 8 (by kernel_rfl) (by kernel_rfl) (by kernel_rfl) (by kernel_rfl)) ?_
  intro W base args ds gs before hval0 hW hcnd _
  have hval : ∀ (j : Nat) t v, Try.f4.params[j]? = some t → args[j]? = some v → Value.okWide Try.prog W .any base t v := hval0
  have hW' := hW
  obtain ⟨p, q, hA0, hV, rfl, hfz, hnd⟩ := hW
  have hA : DataW.TrodAll enc Try.prog W 0 (fun _ => true) true Try.f4.params.toList args.toList ds p := hA0
  rw [Try.params4] at hA hval
  obtain ⟨v0, v1, d0, d1, p0, p1, rfl, rfl, rfl, h0, h1⟩ := trodAll_two hA
  obtain ⟨rfl, rfl⟩ := trodVars_none hV
  obtain ⟨b0, rfl, rfl, rfl, wb0⟩ := open_int Try.underlying5 (hval 0 5 v0 rfl rfl) h0
  simp only [Lit.wf, IntKind.min, IntKind.max, IntKind.signed, IntKind.bits] at wb0
  obtain ⟨a0, rfl, s0⟩ : ∃ n : Nat, b0 = n ∧ n < 256 := ⟨b0.toNat, by simp at wb0; omega, by simp at wb0; omega⟩
  obtain ⟨A1, c1, l1, rfl, lc1, cc1, k1⟩ := open_ws (hval 1 29 v1 rfl rfl) h1
  clear hA0 hval0
  refine (pagesRefuses_any a0 s0 A1 c1 l1 W k1).mono fun e W' ⟨he, hg⟩ => ?_
  subst he
  exact ⟨_, rfl, law_post (by kernel_rfl) (by kernel_rfl) (by rfl) Try.underlying4 rfl hW' rfl hg⟩
theorem pagesRefuses_holds : Rows.PagesRefusesSaid :=
  OpenClaim.holds_of_wide 4 Try.f4 rfl rfl rfl rfl rfl rfl rfl ⟨rfl, rfl, rfl, rfl, rfl⟩ rfl rfl rfl rfl rfl (by kernel_rfl) Try.func4 (by kernel_rfl)
    (of_decide_eq_true (by kernel_rfl)) (by unfold Func.isWrapper; first | (rw [if_pos (by decide +kernel)]; kernel_rfl) | (rw [if_neg (by decide +kernel)]; exact ⟨rfl, rfl⟩))
    (fun os started H enc _ => pagesRefuses_lifted os started H enc)
end Go.Proofs.Ytbddelefglhaaaa
