/- Chapter 6: SpaceExtends. -/
import Derived.Test.YtenbcjlikoajdaaSpcY
namespace Go.Proofs.Ytenbcjlikoajdaa
set_option linter.unusedVariables false
set_option linter.unusedSimpArgs false
set_option linter.unusedSectionVars false
open Go.RowKit
theorem extS_len (e f : List (Int × Int)) (n : Int) (h : e.length ≤ 500) : (extS e f n).1.length ≤ 1000 := by
  rcases extS_cases e f n with h0 | ⟨I, x, k, hL, _, _, _, _, h0⟩
  · rw [h0]; exact Nat.zero_le _
  · have hl := joinS_len e
    rw [hL, List.length_append, List.length_singleton] at hl
    rw [h0]
    unfold extG
    split
    · show (I ++ [(x.1, x.2 + k)]).length ≤ 1000
      rw [List.length_append, List.length_singleton]; omega
    · split
      · exact Nat.zero_le _
      · split
        · exact Nat.zero_le _
        · refine Nat.le_trans (joinS_len _) ?_
          rw [ints_len, List.length_append]
          have h1 : (extL I x k).length = I.length + 1 := by unfold extL; rw [List.length_append, List.length_singleton]
          have h2 : (extA I x f n.toNat k).1.length ≤ 128 := alloc_len _ _ _
          omega
theorem rextend_val {A1 A2 : Option Addr} {c1 c2 m1 m2 : Nat} {l1 l2 : List (Int × Int)} {w : World} (hn1 : m1 = l1.length) (hn2 : m2 = l2.length) (hl1 : l1.length ≤ 1000) (hl2 : l2.length ≤ 1000000) (hr1 : RunsAt w w.heap.size A1 l1) (hr2 : RunsAt w w.heap.size A2 l2) (n : Int) (n0 : -9223372036854775808 ≤ n) (n1 : n ≤ 9223372036854775807) (k : List (Int × Int)) (er : Int) (hk : ints (extS l1 l2 n).1 = k) (he : (extS l1 l2 n).2 = er) :
    Calls Try.prog 18 #[.slice A1 m1 c1, .slice A2 m2 c2, .int .i64 n] w fun e w' => ∃ A c, e = .returned (.tuple #[.slice A k.length c, .int .i64 er]) ∧ RunsAt w' w'.heap.size A k ∧ Grew w w' := by
  subst hn1; subst hn2; subst hk; subst he
  refine (rextend_any A1 A2 c1 c2 l1 l2 w w.heap.size (Nat.le_refl _) hl1 hl2 hr1 hr2 n n0 n1).mono ?_
  rintro e w1 ⟨v, rfl, hown, g1⟩
  obtain ⟨A', c', hv, hr'⟩ := own_runs hown (fun r hr => Nat.le_trans (extS_bd _ _ _ r hr) (by omega))
  exact ⟨A', c', by rw [hv], hr', g1⟩
set_option maxRecDepth 100000 in
set_option maxHeartbeats 8000000 in
theorem spaceExtends_any (A1 A2 : Option Addr) (c1 c2 : Nat) (l1 l2 : List (Int × Int)) (n : Int) (n0 : -9223372036854775808 ≤ n) (n1 : n ≤ 9223372036854775807) (w : World) (hl1 : l1.length ≤ 9223372036854775807) (hl2 : l2.length ≤ 9223372036854775807) (hr1 : RunsAt w w.heap.size A1 l1) (hr2 : RunsAt w w.heap.size A2 l2) :
    Calls Try.prog 4 #[.slice A1 l1.length c1, .slice A2 l2.length c2, .int .i64 n] w fun e w' => e = .returned (.bool true) ∧ Grew w w' := by
  have hG := Grew.refl w
  by_cases h30 : l1.length ≤ 30
  rotate_left
  · go_enter Try.func4, Try.ntmps4
    go_wp2_with fail
    refine (awake_any _).mono ?_
    rintro e ws ⟨rfl, gs⟩
    replace hG := hG.trans gs
    clear gs
    go_wp2_with fail
    refine (awake_any _).mono ?_
    rintro e ws ⟨rfl, gs⟩
    replace hG := hG.trans gs
    clear gs
    go_wp2_with fail
    go_ret
    exact ⟨rfl, hG⟩
  by_cases h31 : l2.length ≤ 30
  rotate_left
  · go_enter Try.func4, Try.ntmps4
    go_wp2_with fail
    refine (awake_any _).mono ?_
    rintro e ws ⟨rfl, gs⟩
    replace hG := hG.trans gs
    clear gs
    go_wp2_with fail
    refine (awake_any _).mono ?_
    rintro e ws ⟨rfl, gs⟩
    replace hG := hG.trans gs
    clear gs
    go_wp2_with fail
    go_ret
    exact ⟨rfl, hG⟩
  obtain ⟨k, hk⟩ : ∃ k, ints (extS l1 l2 n).1 = k := ⟨_, rfl⟩
  obtain ⟨er, he⟩ : ∃ er, (extS l1 l2 n).2 = er := ⟨_, rfl⟩
  have hkl := ints_vlen hk (extS_len l1 l2 n (by omega))
  have HK := Lib.hid hk
  have HE := Lib.hid he
  have e3 : (er == er) = true := by rw [beq_iff_eq]
  clear hk he
  go_enter Try.func4, Try.ntmps4
  go_wp2_with fail
  refine (awake_any _).mono ?_
  rintro e ws ⟨rfl, gs⟩
  replace hr1 := hr1.hold gs
  replace hr2 := hr2.hold gs
  replace hG := hG.trans gs
  clear gs
  go_wp2_with fail
  refine (extend_val rfl rfl (by omega) (by omega) hr1 hr2 n n0 n1 k er HK.out HE.out).mono ?_
  rintro e ws ⟨A3, c3, rfl, r3, gs⟩
  replace hr1 := hr1.hold gs
  replace hr2 := hr2.hold gs
  replace hG := hG.trans gs
  clear gs
  go_wp2_with fail
  refine (rextend_val rfl rfl (by omega) (by omega) hr1 hr2 n n0 n1 k er HK.out HE.out).mono ?_
  rintro e ws ⟨A4, c4, rfl, r4, gs⟩
  replace r3 := r3.hold gs
  replace hG := hG.trans gs
  clear gs
  go_wp2_with fail
  refine (same_val _ _ _ _ _ _ _ _ _ rfl rfl (by omega) (by omega) r3 r4 true (by simp)).mono ?_
  rintro e ws ⟨rfl, gs⟩
  replace hG := hG.trans gs
  clear gs
  go_wp2_with fail
  go_ret
  exact ⟨rfl, hG⟩
end Go.Proofs.Ytenbcjlikoajdaa
