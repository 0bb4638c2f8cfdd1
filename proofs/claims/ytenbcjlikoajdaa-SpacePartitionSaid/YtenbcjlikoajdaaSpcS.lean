/- Chapter 6: SpacePartition. -/
import Derived.Test.YtenbcjlikoajdaaSpcR
namespace Go.Proofs.Ytenbcjlikoajdaa
set_option linter.unusedVariables false
set_option linter.unusedSimpArgs false
set_option linter.unusedSectionVars false
open Go.RowKit
set_option maxRecDepth 100000 in
set_option maxHeartbeats 8000000 in
theorem spacePartition_any (first last : Int) (f0 : -9223372036854775808 ≤ first) (f1 : first ≤ 9223372036854775807) (t0 : -9223372036854775808 ≤ last) (t1 : last ≤ 9223372036854775807) (A : Option Addr) (c : Nat) (l : List (Int × Int)) (w : World) (hl : l.length ≤ 9223372036854775807) (hr : RunsAt w w.heap.size A l) :
    Calls Try.prog 6 #[.int .i64 first, .int .i64 last, .slice A l.length c] w fun e w' => e = .returned (.bool true) ∧ Grew w w' := by
  have hG := Grew.refl w
  by_cases h30 : l.length ≤ 30
  rotate_left
  · go_enter Try.func6, Try.ntmps6
    go_wp2_with fail
    refine (awake_any _).mono ?_
    rintro e ws ⟨rfl, gs⟩
    replace hG := hG.trans gs
    clear gs
    go_wp2_with fail
    refine (awake_any _).mono ?_
    rintro e ws ⟨rfl, gs⟩
    replace hG := hG.trans gs
    clear gs
    go_wp2_with fail
    go_ret
    exact ⟨rfl, hG⟩
  obtain ⟨k, hk⟩ : ∃ k, freeS first last l = k := ⟨_, rfl⟩
  have hkl : k.length ≤ 128 := by rw [← hk]; unfold freeS; rw [ints_len]; exact normS_len _
  have HV := Lib.hid (show decide (k = ints (normS (memS k))) = true from by rw [decide_eq_true_eq, ← hk]; unfold freeS; rw [normS_norm])
  have HI := Lib.hid (show ∀ i : Nat, i < 128 → inT k (i : Int) = (freeB first last i && !memS l i) from fun i hi => by rw [inT_nat, ← hk]; unfold freeS; rw [memS_normS _ i hi])
  have HK := Lib.hid hk
  clear hk
  go_enter Try.func6, Try.ntmps6
  go_wp2_with fail
  refine (awake_any _).mono ?_
  rintro e ws ⟨rfl, gs⟩
  replace hr := hr.hold gs
  replace hG := hG.trans gs
  clear gs
  go_wp2_with fail
  refine (free_val rfl (by omega) hr first last f0 f1 t0 t1 k HK.out).mono ?_
  rintro e ws ⟨A3, c3, rfl, r3, gs⟩
  replace hr := hr.hold gs
  replace hG := hG.trans gs
  clear gs
  go_wp2_with fail
  refine (valid_val rfl (by omega) r3 true HV.out).mono ?_
  rintro e ws ⟨rfl, gs⟩
  replace hr := hr.hold gs
  replace r3 := r3.hold gs
  replace hG := hG.trans gs
  clear gs
  have HR := Lib.hid hr
  have HR3 := Lib.hid r3
  obtain ⟨wb, hwb⟩ : ∃ wb, wb = ws := ⟨_, rfl⟩
  subst hwb
  clear hr r3
  go_wp2_with fail
  go_loopg [8] 128 (fun gk i wr => ∃ j : Nat, j ≤ 128 ∧ gk = 128 - j ∧ i = .int .i64 (j : Int) ∧ Grew wb wr)
  case atStart => exact ⟨0, by omega, by omega, rfl, Grew.refl _⟩
  case round =>
    obtain ⟨j, hj, hgk, rfl, hg⟩ := hrel
    have HGK := Lib.hid hgk
    clear hgk
    have q1 := HR.out.hold hg
    have q3 := HR3.out.hold hg
    by_cases hlt : j < 128
    · have hI := HI.out j hlt
      unfold freeB at hI
      by_cases ha : first ≤ (j : Int)
      · by_cases hb : (j : Int) < last
        · rw [decide_eq_true (show first ≤ (j : Int) ∧ (j : Int) < last from ⟨ha, hb⟩)] at hI
          cases hu : memS l j with
          | false =>
            have HI1 := Lib.hid (show inT k (j : Int) = true from by rw [hI, hu]; rfl)
            have HU := Lib.hid (show inT l (j : Int) = false from by rw [inT_nat]; exact hu)
            clear hI hu
            go_wp2_with fail
            refine (contains_val rfl (by omega) q3 (j : Int) (by omega) (by omega) true HI1.out).mono ?_
            rintro e w4 ⟨rfl, g4⟩
            go_wp2_with fail
            refine (contains_val rfl (by omega) (q1.hold g4) (j : Int) (by omega) (by omega) false HU.out).mono ?_
            rintro e w5 ⟨rfl, g5⟩
            go_wp2_with fail
            go_roundg (128 - (j + 1))
            case measure => rw [HGK.out]; omega
            case rel => exact ⟨j + 1, by omega, by omega, by go_num, (hg.trans g4).trans g5⟩
          | true =>
            have HI1 := Lib.hid (show inT k (j : Int) = false from by rw [hI, hu]; rfl)
            have HU := Lib.hid (show inT l (j : Int) = true from by rw [inT_nat]; exact hu)
            clear hI hu
            go_wp2_with fail
            refine (contains_val rfl (by omega) q3 (j : Int) (by omega) (by omega) false HI1.out).mono ?_
            rintro e w4 ⟨rfl, g4⟩
            go_wp2_with fail
            refine (contains_val rfl (by omega) (q1.hold g4) (j : Int) (by omega) (by omega) true HU.out).mono ?_
            rintro e w5 ⟨rfl, g5⟩
            go_wp2_with fail
            go_roundg (128 - (j + 1))
            case measure => rw [HGK.out]; omega
            case rel => exact ⟨j + 1, by omega, by omega, by go_num, (hg.trans g4).trans g5⟩
        · have HI1 := Lib.hid (show inT k (j : Int) = false from by rw [hI, decide_eq_false (fun h => hb h.2), Bool.false_and])
          clear hI
          go_wp2_with fail
          refine (contains_val rfl (by omega) q3 (j : Int) (by omega) (by omega) false HI1.out).mono ?_
          rintro e w4 ⟨rfl, g4⟩
          go_wp2_with fail
          go_roundg (128 - (j + 1))
          case measure => rw [HGK.out]; omega
          case rel => exact ⟨j + 1, by omega, by omega, by go_num, hg.trans g4⟩
      · have HI1 := Lib.hid (show inT k (j : Int) = false from by rw [hI, decide_eq_false (fun h => ha h.1), Bool.false_and])
        clear hI
        go_wp2_with fail
        refine (contains_val rfl (by omega) q3 (j : Int) (by omega) (by omega) false HI1.out).mono ?_
        rintro e w4 ⟨rfl, g4⟩
        go_wp2_with fail
        go_roundg (128 - (j + 1))
        case measure => rw [HGK.out]; omega
        case rel => exact ⟨j + 1, by omega, by omega, by go_num, hg.trans g4⟩
    · go_wp2_with fail
      go_ret
      exact ⟨rfl, hG.trans hg⟩
end Go.Proofs.Ytenbcjlikoajdaa
