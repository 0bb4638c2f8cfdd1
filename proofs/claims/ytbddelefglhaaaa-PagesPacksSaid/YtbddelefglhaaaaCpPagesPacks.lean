/- PagesPacks returns true for all bytes, versions, indices and raw sectors, and nothing that was there is changed. No condition. -/
import Derived.Test.YtbddelefglhaaaaCpL
namespace Go.Proofs.Ytbddelefglhaaaa
set_option linter.unusedVariables false
set_option linter.unusedSimpArgs false
set_option linter.unusedSectionVars false
open Go.ChangeShapes Go.WideShapes Go.ChangeAt Go.RowKit Go.ChangeMaps
set_option maxRecDepth 100000 in
theorem pagesPacks_lifted (os : Os) (started : os.Started) (H : Type) (enc : TypeId × Value → H) :
    ReturnsInHanded {} Try.checked os 3 .any (Rows.pagesPacksSpec.pre6 enc Try.prog Try.f3 Rows.pagesPacksRow.domain false) (Rows.pagesPacksSpec.post enc Try.prog Try.f3 false true false false) := by
  refine returnsInHanded_of_change (C := Try.checked) (by kernel_rfl) started (by kernel_rfl) Try.func3
    (ChangeSpec.witness6 (enc := enc) (C := Try.checked) false ⟨#[], #[.string ⟨#[]⟩, .int .u32 0, .int .i64 0, .string ⟨#[]⟩], []⟩ 8 (by kernel_rfl) (by kernel_rfl) (by kernel_rfl) (by kernel_rfl)) ?_
  intro W base args ds gs before hval0 hW hcnd _
  have hval : ∀ (j : Nat) t v, Try.f3.params[j]? = some t → args[j]? = some v → Value.okWide Try.prog W .any base t v := hval0
  have hW' := hW
  obtain ⟨p, q, hA0, hV, rfl, hfz, hnd⟩ := hW
  have hA : DataW.TrodAll enc Try.prog W 0 (fun _ => true) true Try.f3.params.toList args.toList ds p := hA0
  rw [Try.params3] at hA hval
  obtain ⟨al⟩ := args
  simp only [] at hA
  obtain ⟨v0, al0, d0, dl0, p0, q0, rfl, rfl, rfl, h0, r0⟩ := trodAll_cons hA
  obtain ⟨v1, al1, d1, dl1, p1, q1, rfl, rfl, rfl, h1, r1⟩ := trodAll_cons r0
  obtain ⟨v2, al2, d2, dl2, p2, q2, rfl, rfl, rfl, h2, r2⟩ := trodAll_cons r1
  obtain ⟨v3, al3, d3, dl3, p3, q3, rfl, rfl, rfl, h3, r3⟩ := trodAll_cons r2
  obtain ⟨rfl, rfl, rfl⟩ := trodAll_nil r3
  obtain ⟨rfl, rfl⟩ := trodVars_none hV
  obtain ⟨a0, rfl, rfl, rfl, wa0⟩ := open_string Try.underlying9 (hval 0 9 v0 rfl rfl) h0
  have s0 : a0.size ≤ 9223372036854775807 := by unfold maxLen at wa0; simpa using wa0
  obtain ⟨b1, rfl, rfl, rfl, wb1⟩ := open_int Try.underlying22 (hval 1 22 v1 rfl rfl) h1
  simp only [Lit.wf, IntKind.min, IntKind.max, IntKind.signed, IntKind.bits] at wb1
  obtain ⟨a1, rfl, s1⟩ : ∃ n : Nat, b1 = n ∧ n < 4294967296 := ⟨b1.toNat, by simp at wb1; omega, by simp at wb1; omega⟩
  obtain ⟨b2, rfl, rfl, rfl, wb2⟩ := open_int Try.underlying3 (hval 2 3 v2 rfl rfl) h2
  simp only [Lit.wf, IntKind.min, IntKind.max, IntKind.signed, IntKind.bits] at wb2
  have s2 : -9223372036854775808 ≤ b2 ∧ b2 ≤ 9223372036854775807 := by simp at wb2; omega
  obtain ⟨a2, rfl⟩ : ∃ a, a = b2 := ⟨_, rfl⟩
  obtain ⟨a3, rfl, rfl, rfl, wa3⟩ := open_string Try.underlying9 (hval 3 9 v3 rfl rfl) h3
  have s3 : a3.size ≤ 9223372036854775807 := by unfold maxLen at wa3; simpa using wa3
  clear hA0 hval0
  refine (pagesPacks_any a0 a1 s1 a2 s2 a3 s0 s3 W).mono fun e W' ⟨he, hg⟩ => ?_
  subst he
  exact ⟨_, rfl, law_post (by kernel_rfl) (by kernel_rfl) (by rfl) Try.underlying4 rfl hW' rfl hg⟩
theorem pagesPacks_holds : Rows.PagesPacksSaid :=
  OpenClaim.holds_of_wide 3 Try.f3 rfl rfl rfl rfl rfl rfl rfl ⟨rfl, rfl, rfl, rfl, rfl⟩ rfl rfl rfl rfl rfl (by kernel_rfl) Try.func3 (by kernel_rfl)
    (of_decide_eq_true (by kernel_rfl)) (by unfold Func.isWrapper; first | (rw [if_pos (by decide +kernel)]; kernel_rfl) | (rw [if_neg (by decide +kernel)]; exact ⟨rfl, rfl⟩))
    (fun os started H enc _ => pagesPacks_lifted os started H enc)
end Go.Proofs.Ytbddelefglhaaaa
