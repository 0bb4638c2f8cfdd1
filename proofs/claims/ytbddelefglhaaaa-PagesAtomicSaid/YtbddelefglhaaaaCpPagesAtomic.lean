/- PagesAtomic returns true for all numbers of sectors, lists of writes, fuses and numbers of bytes that survive, and nothing that was there is changed. No condition. -/
import Derived.Test.YtbddelefglhaaaaCpL
namespace Go.Proofs.Ytbddelefglhaaaa
set_option linter.unusedVariables false
set_option linter.unusedSimpArgs false
set_option linter.unusedSectionVars false
open Go.ChangeShapes Go.WideShapes Go.ChangeAt Go.RowKit Go.ChangeMaps
set_option maxRecDepth 100000 in
theorem pagesAtomic_lifted (os : Os) (started : os.Started) (H : Type) (enc : TypeId × Value → H) :
    ReturnsInHanded {} Try.checked os 6 .any (Rows.pagesAtomicSpec.pre6 enc Try.prog Try.f6 Rows.pagesAtomicRow.domain false) (Rows.pagesAtomicSpec.post enc Try.prog Try.f6 false true false false) := by
  refine returnsInHanded_of_change (C := Try.checked) (by kernel_rfl) started (by kernel_rfl) Try.func6
    (ChangeSpec.witness6 (enc := enc) (C := Try.checked) false ⟨#[], #[.int .u8 0, .slice none 0 0, .slice none 0 0, .int .u8 0, .slice none 0 0], []⟩ 8 (by kernel_rfl) (by kernel_rfl) (by kernel_rfl) (by kernel_rfl)) ?_
  intro W base args ds gs before hval0 hW hcnd _
  have hval : ∀ (j : Nat) t v, Try.f6.params[j]? = some t → args[j]? = some v → Value.okWide Try.prog W .any base t v := hval0
  have hW' := hW
  obtain ⟨p, q, hA0, hV, rfl, hfz, hnd⟩ := hW
  have hA : DataW.TrodAll enc Try.prog W 0 (fun _ => true) true Try.f6.params.toList args.toList ds p := hA0
  rw [Try.params6] at hA hval
  obtain ⟨al⟩ := args
  simp only [] at hA
  obtain ⟨v0, al0, d0, dl0, p0, q0, rfl, rfl, rfl, h0, r0⟩ := trodAll_cons hA
  obtain ⟨v1, al1, d1, dl1, p1, q1, rfl, rfl, rfl, h1, r1⟩ := trodAll_cons r0
  obtain ⟨v2, al2, d2, dl2, p2, q2, rfl, rfl, rfl, h2, r2⟩ := trodAll_cons r1
  obtain ⟨v3, al3, d3, dl3, p3, q3, rfl, rfl, rfl, h3, r3⟩ := trodAll_cons r2
  obtain ⟨v4, al4, d4, dl4, p4, q4, rfl, rfl, rfl, h4, r4⟩ := trodAll_cons r3
  obtain ⟨rfl, rfl, rfl⟩ := trodAll_nil r4
  obtain ⟨rfl, rfl⟩ := trodVars_none hV
  obtain ⟨b0, rfl, rfl, rfl, wb0⟩ := open_int Try.underlying5 (hval 0 5 v0 rfl rfl) h0
  simp only [Lit.wf, IntKind.min, IntKind.max, IntKind.signed, IntKind.bits] at wb0
  obtain ⟨a0, rfl, s0⟩ : ∃ n : Nat, b0 = n ∧ n < 256 := ⟨b0.toNat, by simp at wb0; omega, by simp at wb0; omega⟩
  obtain ⟨A1, c1, l1, rfl, lc1, cc1, k1⟩ := open_ws (hval 1 29 v1 rfl rfl) h1
  obtain ⟨A2, c2, l2, rfl, lc2, cc2, k2⟩ := open_ws (hval 2 29 v2 rfl rfl) h2
  obtain ⟨b3, rfl, rfl, rfl, wb3⟩ := open_int Try.underlying5 (hval 3 5 v3 rfl rfl) h3
  simp only [Lit.wf, IntKind.min, IntKind.max, IntKind.signed, IntKind.bits] at wb3
  obtain ⟨a3, rfl, s3⟩ : ∃ n : Nat, b3 = n ∧ n < 256 := ⟨b3.toNat, by simp at wb3; omega, by simp at wb3; omega⟩
  obtain ⟨A4, c4, l4, rfl, lc4, cc4, k4⟩ := open_ints4 (hval 4 54 v4 rfl rfl) h4
  clear hA0 hval0
  refine (pagesAtomic_any a0 s0 A1 c1 l1 A2 c2 l2 a3 s3 A4 c4 l4 W k1 k2 k4.2 k4.1).mono fun e W' ⟨he, hg⟩ => ?_
  subst he
  exact ⟨_, rfl, law_post (by kernel_rfl) (by kernel_rfl) (by rfl) Try.underlying4 rfl hW' rfl hg⟩
theorem pagesAtomic_holds : Rows.PagesAtomicSaid :=
  OpenClaim.holds_of_wide 6 Try.f6 rfl rfl rfl rfl rfl rfl rfl ⟨rfl, rfl, rfl, rfl, rfl⟩ rfl rfl rfl rfl rfl (by kernel_rfl) Try.func6 (by kernel_rfl)
    (of_decide_eq_true (by kernel_rfl)) (by unfold Func.isWrapper; first | (rw [if_pos (by decide +kernel)]; kernel_rfl) | (rw [if_neg (by decide +kernel)]; exact ⟨rfl, rfl⟩))
    (fun os started H enc _ => pagesAtomic_lifted os started H enc)
end Go.Proofs.Ytbddelefglhaaaa
