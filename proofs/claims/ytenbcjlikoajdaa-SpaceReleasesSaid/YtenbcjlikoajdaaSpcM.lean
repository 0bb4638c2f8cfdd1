/- Chapter 6: SpaceReleases. -/
import Derived.Test.YtenbcjlikoajdaaSpcK
namespace Go.Proofs.Ytenbcjlikoajdaa
set_option linter.unusedVariables false
set_option linter.unusedSimpArgs false
set_option linter.unusedSectionVars false
open Go.RowKit
theorem relA_len (l : List (Int × Int)) (keep : Int) : (relA l keep).length ≤ l.length := by
  unfold relA
  split
  · exact Nat.zero_le _
  · have := joinS_len (ints (cutA l keep.toNat)); rw [ints_len]; rw [ints_len, cutA_len] at this; exact this
theorem relB_len (l : List (Int × Int)) (keep : Int) : (relB l keep).length ≤ 128 := by
  unfold relB
  split
  · exact Nat.zero_le _
  · rw [ints_len]; exact normS_len _
set_option maxRecDepth 100000 in
set_option maxHeartbeats 8000000 in
theorem spaceReleases_any (A1 A2 : Option Addr) (c1 c2 : Nat) (l1 l2 : List (Int × Int)) (n : Int) (n0 : -9223372036854775808 ≤ n) (n1 : n ≤ 9223372036854775807) (w : World) (hl1 : l1.length ≤ 9223372036854775807) (hl2 : l2.length ≤ 9223372036854775807) (hr1 : RunsAt w w.heap.size A1 l1) (hr2 : RunsAt w w.heap.size A2 l2) :
    Calls Try.prog 10 #[.slice A1 l1.length c1, .slice A2 l2.length c2, .int .i64 n] w fun e w' => e = .returned (.bool true) ∧ Grew w w' := by
  have hG := Grew.refl w
  by_cases h30 : l1.length ≤ 30
  rotate_left
  · go_enter Try.func10, Try.ntmps10
    go_wp2_with fail
    refine (awake_any _).mono ?_
    rintro e ws ⟨rfl, gs⟩
    replace hG := hG.trans gs
    clear gs
    go_wp2_with fail
    refine (awake_any _).mono ?_
    rintro e ws ⟨rfl, gs⟩
    replace hG := hG.trans gs
    clear gs
    go_wp2_with fail
    go_ret
    exact ⟨rfl, hG⟩
  by_cases h31 : l2.length ≤ 30
  rotate_left
  · go_enter Try.func10, Try.ntmps10
    go_wp2_with fail
    refine (awake_any _).mono ?_
    rintro e ws ⟨rfl, gs⟩
    replace hG := hG.trans gs
    clear gs
    go_wp2_with fail
    refine (awake_any _).mono ?_
    rintro e ws ⟨rfl, gs⟩
    replace hG := hG.trans gs
    clear gs
    go_wp2_with fail
    go_ret
    exact ⟨rfl, hG⟩
  obtain ⟨ka, hka⟩ : ∃ k, relA l1 n = k := ⟨_, rfl⟩
  obtain ⟨kb, hkb⟩ : ∃ k, relB l1 n = k := ⟨_, rfl⟩
  obtain ⟨er, her⟩ : ∃ k, relE l1 n = k := ⟨_, rfl⟩
  obtain ⟨⟨⟨a, b⟩, ok⟩, hc⟩ : ∃ X, conS l1 l2 = X := ⟨_, rfl⟩
  have hla := relA_len l1 n
  have hlb := relB_len l1 n
  rw [hka] at hla
  rw [hkb] at hlb
  have HA := Lib.hid hka
  have HB := Lib.hid hkb
  have HE := Lib.hid her
  have HC := Lib.hid hc
  have e1 : (a == a) = true := by rw [beq_iff_eq]
  have e2 : (b == b) = true := by rw [beq_iff_eq]
  have e3 : (er == er) = true := by rw [beq_iff_eq]
  have e4 : (ok == ok) = true := by rw [beq_iff_eq]
  clear hka hkb her hc
  go_enter Try.func10, Try.ntmps10
  go_wp2_with fail
  refine (awake_any _).mono ?_
  rintro e ws ⟨rfl, gs⟩
  replace hr1 := hr1.hold gs
  replace hr2 := hr2.hold gs
  replace hG := hG.trans gs
  clear gs
  go_wp2_with fail
  refine (release_val rfl (by omega) hr1 n n0 n1 ka kb er HA.out HB.out HE.out).mono ?_
  rintro e ws ⟨B1, d1, B2, d2, rfl, q1, q2, gs⟩
  replace hr1 := hr1.hold gs
  replace hr2 := hr2.hold gs
  replace hG := hG.trans gs
  clear gs
  go_wp2_with fail
  refine (rrelease_val rfl (by omega) hr1 n n0 n1 ka kb er HA.out HB.out HE.out).mono ?_
  rintro e ws ⟨B3, d3, B4, d4, rfl, q3, q4, gs⟩
  replace hr1 := hr1.hold gs
  replace hr2 := hr2.hold gs
  replace q1 := q1.hold gs
  replace q2 := q2.hold gs
  replace hG := hG.trans gs
  clear gs
  go_wp2_with fail
  refine (consol_val rfl rfl (by omega) (by omega) hr1 hr2 a b ok HC.out).mono ?_
  rintro e ws ⟨rfl, gs⟩
  replace hr1 := hr1.hold gs
  replace hr2 := hr2.hold gs
  replace q1 := q1.hold gs
  replace q2 := q2.hold gs
  replace q3 := q3.hold gs
  replace q4 := q4.hold gs
  replace hG := hG.trans gs
  clear gs
  have hb1 := Blk.new ws 25 #[.int .i64 a, .int .i64 b] rfl
  have gal := (Grew.refl ws).alloc (.cells #[.int .i64 a, .int .i64 b] 25)
  replace hr1 := hr1.hold gal
  replace hr2 := hr2.hold gal
  replace q1 := q1.hold gal
  replace q2 := q2.hold gal
  replace q3 := q3.hold gal
  replace q4 := q4.hold gal
  replace hG := hG.trans gal
  clear gal
  go_wp2_with fail
  refine (rconsol_val rfl rfl (by omega) (by omega) hr1 hr2 a b ok HC.out).mono ?_
  rintro e ws ⟨rfl, gs⟩
  replace hb1 := hb1.hold gs
  replace q1 := q1.hold gs
  replace q2 := q2.hold gs
  replace q3 := q3.hold gs
  replace q4 := q4.hold gs
  replace hG := hG.trans gs
  clear gs
  have hb2 := Blk.new ws 25 #[.int .i64 a, .int .i64 b] rfl
  have gal := (Grew.refl ws).alloc (.cells #[.int .i64 a, .int .i64 b] 25)
  replace hb1 := hb1.hold gal
  replace q1 := q1.hold gal
  replace q2 := q2.hold gal
  replace q3 := q3.hold gal
  replace q4 := q4.hold gal
  replace hG := hG.trans gal
  clear gal hr1 hr2
  go_wp2_with fail
  refine (same_val _ _ _ _ _ _ _ _ _ rfl rfl (by omega) (by omega) q1 q3 true (by simp)).mono ?_
  rintro e ws ⟨rfl, gs⟩
  replace hb1 := hb1.hold gs
  replace hb2 := hb2.hold gs
  replace q2 := q2.hold gs
  replace q4 := q4.hold gs
  replace hG := hG.trans gs
  clear gs
  go_wp2_with fail
  refine (same_val _ _ _ _ _ _ _ _ _ rfl rfl (by omega) (by omega) q2 q4 true (by simp)).mono ?_
  rintro e ws ⟨rfl, gs⟩
  replace hb1 := hb1.hold gs
  replace hb2 := hb2.hold gs
  replace hG := hG.trans gs
  clear gs
  have x0 := hb1.cell 0
  have x1 := hb1.cell 1
  have y0 := hb2.cell 0
  have y1 := hb2.cell 1
  have m1 := hb1.lt
  have m2 := hb2.lt
  go_wp2_with fail
  go_ret
  exact ⟨rfl, hG⟩
end Go.Proofs.Ytenbcjlikoajdaa
