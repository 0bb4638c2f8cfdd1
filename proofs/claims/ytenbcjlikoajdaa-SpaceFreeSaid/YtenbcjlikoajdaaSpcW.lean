/- Chapter 6: SpaceFree. -/
import Derived.Test.YtenbcjlikoajdaaSpcV
namespace Go.Proofs.Ytenbcjlikoajdaa
set_option linter.unusedVariables false
set_option linter.unusedSimpArgs false
set_option linter.unusedSectionVars false
open Go.RowKit
set_option maxRecDepth 100000 in
set_option maxHeartbeats 8000000 in
theorem spaceFree_any (first last : Int) (f0 : -9223372036854775808 ≤ first) (f1 : first ≤ 9223372036854775807) (t0 : -9223372036854775808 ≤ last) (t1 : last ≤ 9223372036854775807) (A : Option Addr) (c : Nat) (l : List (Int × Int)) (w : World) (hl : l.length ≤ 9223372036854775807) (hr : RunsAt w w.heap.size A l) :
    Calls Try.prog 8 #[.int .i64 first, .int .i64 last, .slice A l.length c] w fun e w' => e = .returned (.bool true) ∧ Grew w w' := by
  have hG := Grew.refl w
  by_cases h30 : l.length ≤ 30
  rotate_left
  · go_enter Try.func8, Try.ntmps8
    go_wp2_with fail
    refine (awake_any _).mono ?_
    rintro e ws ⟨rfl, gs⟩
    replace hG := hG.trans gs
    clear gs
    go_wp2_with fail
    refine (awake_any _).mono ?_
    rintro e ws ⟨rfl, gs⟩
    replace hG := hG.trans gs
    clear gs
    go_wp2_with fail
    go_ret
    exact ⟨rfl, hG⟩
  obtain ⟨k, hk⟩ : ∃ k, freeS first last l = k := ⟨_, rfl⟩
  obtain ⟨⟨a, b⟩, hf⟩ : ∃ X, fragS (memS l) = X := ⟨_, rfl⟩
  obtain ⟨mx, hm⟩ : ∃ mx : Int, ((maxL (normS (memS l)) : Nat) : Int) = mx := ⟨_, rfl⟩
  have hkl : k.length ≤ 128 := by rw [← hk]; unfold freeS; rw [ints_len]; exact normS_len _
  have HK := Lib.hid hk
  have HF := Lib.hid hf
  have HM := Lib.hid hm
  have e1 : (a == a) = true := by rw [beq_iff_eq]
  have e2 : (b == b) = true := by rw [beq_iff_eq]
  have e3 : (mx == mx) = true := by rw [beq_iff_eq]
  clear hk hf hm
  go_enter Try.func8, Try.ntmps8
  go_wp2_with fail
  refine (awake_any _).mono ?_
  rintro e ws ⟨rfl, gs⟩
  replace hr := hr.hold gs
  replace hG := hG.trans gs
  clear gs
  go_wp2_with fail
  refine (frag_val rfl (by omega) hr a b HF.out).mono ?_
  rintro e ws ⟨rfl, gs⟩
  replace hr := hr.hold gs
  replace hG := hG.trans gs
  clear gs
  go_wp2_with fail
  refine (rfrag_val rfl (by omega) hr a b HF.out).mono ?_
  rintro e ws ⟨rfl, gs⟩
  replace hr := hr.hold gs
  replace hG := hG.trans gs
  clear gs
  go_wp2_with fail
  refine (free_val rfl (by omega) hr first last f0 f1 t0 t1 k HK.out).mono ?_
  rintro e ws ⟨A3, c3, rfl, r3, gs⟩
  replace hr := hr.hold gs
  replace hG := hG.trans gs
  clear gs
  go_wp2_with fail
  refine (rfree_val rfl (by omega) hr first last f0 f1 t0 t1 k HK.out).mono ?_
  rintro e ws ⟨A4, c4, rfl, r4, gs⟩
  replace hr := hr.hold gs
  replace r3 := r3.hold gs
  replace hG := hG.trans gs
  clear gs
  go_wp2_with fail
  refine (same_val _ _ _ _ _ _ _ _ _ rfl rfl (by omega) (by omega) r3 r4 true (by simp)).mono ?_
  rintro e ws ⟨rfl, gs⟩
  replace hr := hr.hold gs
  replace hG := hG.trans gs
  clear gs
  go_wp2_with fail
  refine (largest_val rfl (by omega) hr mx HM.out).mono ?_
  rintro e ws ⟨rfl, gs⟩
  replace hr := hr.hold gs
  replace hG := hG.trans gs
  clear gs
  go_wp2_with fail
  refine (rlargest_val rfl (by omega) hr mx HM.out).mono ?_
  rintro e ws ⟨rfl, gs⟩
  replace hG := hG.trans gs
  clear gs
  go_wp2_with fail
  go_ret
  exact ⟨rfl, hG⟩
end Go.Proofs.Ytenbcjlikoajdaa
