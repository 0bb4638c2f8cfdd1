/- The walks of ExtentNormal, ExtentCuts, ExtentSets and ExtentLists. -/
import Derived.Test.YtikifikophefdaaExtS
namespace Go.Proofs.Ytikifikophefdaa
set_option linter.unusedVariables false
set_option linter.unusedSimpArgs false
set_option linter.unusedSectionVars false
open Go.RowKit
theorem normS_vlen (S : Nat → Bool) {k : List (Int × Int)} (h : ints (normS S) = k) : k.length ≤ 128 := by subst h; rw [ints_len]; exact normS_len S
theorem joinS_vlen (l : List (Int × Int)) {k : List (Int × Int)} (h : ints (joinS l) = k) : k.length ≤ l.length := by subst h; rw [ints_len]; exact joinS_len l
theorem cutA_vlen (l : List (Int × Int)) (n : Nat) : (ints (cutA l n)).length = l.length := by rw [ints_len, cutA_len]
theorem cutB_vlen (l : List (Int × Int)) (n : Nat) : (ints (cutB l n)).length = l.length := by rw [ints_len, cutB_len]
set_option maxRecDepth 100000 in
set_option maxHeartbeats 4000000 in
theorem extentNormal_any (A : Option Addr) (c : Nat) (l : List (Int × Int)) (w : World) (hl : l.length ≤ 9223372036854775807) (hr : RunsAt w w.heap.size A l) :
    Calls Try.prog 4 #[.slice A l.length c] w fun e w' => e = .returned (.bool true) ∧ Grew w w' := by
  have hG := Grew.refl w
  by_cases h30 : l.length ≤ 30
  · obtain ⟨k, hk⟩ : ∃ k, ints (normS (memS l)) = k := ⟨_, rfl⟩
    have hkl := normS_vlen _ hk
    have HKK := Lib.hid (show decide (k = ints (normS (memS k))) = true from by subst hk; rw [normS_norm, decide_eq_true_eq])
    obtain ⟨b, hb⟩ : ∃ b, decide (l = k) = b := ⟨_, rfl⟩
    have HK := Lib.hid hk
    have HB := Lib.hid hb
    clear hk hb
    cases b
    · go_enter Try.func4, Try.ntmps4
      go_wp2_with fail
      refine (awake_any _).mono ?_
      rintro e ws ⟨rfl, gs⟩
      replace hr := hr.hold gs
      replace hG := hG.trans gs
      clear gs
      go_wp2_with fail
      refine (refnormal_val rfl (by omega) hr k HK.out).mono ?_
      rintro e ws ⟨A2, c2, rfl, r2, gs⟩
      replace hr := hr.hold gs
      replace hG := hG.trans gs
      clear gs
      go_wp2_with fail
      refine (valid_val rfl (by omega) hr false (by rw [HK.out]; exact HB.out)).mono ?_
      rintro e ws ⟨rfl, gs⟩
      replace hr := hr.hold gs
      replace r2 := r2.hold gs
      replace hG := hG.trans gs
      clear gs
      go_wp2_with fail
      refine (same_val _ _ _ _ _ _ _ _ _ rfl rfl (by omega) (by omega) hr r2 false HB.out).mono ?_
      rintro e ws ⟨rfl, gs⟩
      replace hr := hr.hold gs
      replace r2 := r2.hold gs
      replace hG := hG.trans gs
      clear gs
      go_wp2_with fail
      refine (normal_val _ _ _ _ _ rfl (by omega) hr k HK.out).mono ?_
      rintro e ws ⟨A3, c3, rfl, r3, gs⟩
      replace r2 := r2.hold gs
      replace hG := hG.trans gs
      clear gs
      go_wp2_with fail
      refine (same_val _ _ _ _ _ _ _ _ _ rfl rfl (by omega) (by omega) r3 r2 true (by simp)).mono ?_
      rintro e ws ⟨rfl, gs⟩
      replace r2 := r2.hold gs
      replace hG := hG.trans gs
      clear gs
      go_wp2_with fail
      refine (valid_val rfl (by omega) r2 true HKK.out).mono ?_
      rintro e ws ⟨rfl, gs⟩
      replace hG := hG.trans gs
      clear gs
      go_wp2_with fail
      go_ret
      exact ⟨rfl, hG⟩
    · go_enter Try.func4, Try.ntmps4
      go_wp2_with fail
      refine (awake_any _).mono ?_
      rintro e ws ⟨rfl, gs⟩
      replace hr := hr.hold gs
      replace hG := hG.trans gs
      clear gs
      go_wp2_with fail
      refine (refnormal_val rfl (by omega) hr k HK.out).mono ?_
      rintro e ws ⟨A2, c2, rfl, r2, gs⟩
      replace hr := hr.hold gs
      replace hG := hG.trans gs
      clear gs
      go_wp2_with fail
      refine (valid_val rfl (by omega) hr true (by rw [HK.out]; exact HB.out)).mono ?_
      rintro e ws ⟨rfl, gs⟩
      replace hr := hr.hold gs
      replace r2 := r2.hold gs
      replace hG := hG.trans gs
      clear gs
      go_wp2_with fail
      refine (same_val _ _ _ _ _ _ _ _ _ rfl rfl (by omega) (by omega) hr r2 true HB.out).mono ?_
      rintro e ws ⟨rfl, gs⟩
      replace hr := hr.hold gs
      replace r2 := r2.hold gs
      replace hG := hG.trans gs
      clear gs
      go_wp2_with fail
      refine (normal_val _ _ _ _ _ rfl (by omega) hr k HK.out).mono ?_
      rintro e ws ⟨A3, c3, rfl, r3, gs⟩
      replace r2 := r2.hold gs
      replace hG := hG.trans gs
      clear gs
      go_wp2_with fail
      refine (same_val _ _ _ _ _ _ _ _ _ rfl rfl (by omega) (by omega) r3 r2 true (by simp)).mono ?_
      rintro e ws ⟨rfl, gs⟩
      replace r2 := r2.hold gs
      replace hG := hG.trans gs
      clear gs
      go_wp2_with fail
      refine (valid_val rfl (by omega) r2 true HKK.out).mono ?_
      rintro e ws ⟨rfl, gs⟩
      replace hG := hG.trans gs
      clear gs
      go_wp2_with fail
      go_ret
      exact ⟨rfl, hG⟩
  · go_enter Try.func4, Try.ntmps4
    go_wp2_with fail
    refine (awake_any _).mono ?_
    rintro e ws ⟨rfl, gs⟩
    replace hG := hG.trans gs
    clear gs
    go_wp2_with fail
    refine (awake_any _).mono ?_
    rintro e ws ⟨rfl, gs⟩
    replace hG := hG.trans gs
    clear gs
    go_wp2_with fail
    go_ret
    exact ⟨rfl, hG⟩
set_option maxRecDepth 100000 in
set_option maxHeartbeats 4000000 in
theorem extentCuts_any (A : Option Addr) (c : Nat) (l : List (Int × Int)) (n : Int) (n0 : -9223372036854775808 ≤ n) (n1 : n ≤ 9223372036854775807) (w : World) (hl : l.length ≤ 9223372036854775807) (hr : RunsAt w w.heap.size A l) :
    Calls Try.prog 3 #[.slice A l.length c, .int .i64 n] w fun e w' => e = .returned (.bool true) ∧ Grew w w' := by
  have hG := Grew.refl w
  by_cases h30 : l.length ≤ 30
  · obtain ⟨k1, hk1⟩ : ∃ k, ints (joinS (ints (cutA l n.toNat))) = k := ⟨_, rfl⟩
    obtain ⟨k2, hk2⟩ : ∃ k, ints (joinS (ints (cutB l n.toNat))) = k := ⟨_, rfl⟩
    obtain ⟨k3, hk3⟩ : ∃ k, ints (joinS l) = k := ⟨_, rfl⟩
    have hl1 := joinS_vlen _ hk1
    rw [cutA_vlen] at hl1
    have hl2 := joinS_vlen _ hk2
    rw [cutB_vlen] at hl2
    have hl3 := joinS_vlen _ hk3
    have HK1 := Lib.hid hk1
    have HK2 := Lib.hid hk2
    have HK3 := Lib.hid hk3
    clear hk1 hk2 hk3
    go_enter Try.func3, Try.ntmps3
    go_wp2_with fail
    refine (awake_any _).mono ?_
    rintro e ws ⟨rfl, gs⟩
    replace hr := hr.hold gs
    replace hG := hG.trans gs
    clear gs
    go_wp2_with fail
    refine (cut_val rfl (by omega) hr n n0 n1 k1 k2 HK1.out HK2.out).mono ?_
    rintro e ws ⟨A1, c1, A2, c2, rfl, r1, r2, gs⟩
    replace hr := hr.hold gs
    replace hG := hG.trans gs
    clear gs
    go_wp2_with fail
    refine (refcut_val rfl (by omega) hr n n0 n1 k1 k2 HK1.out HK2.out).mono ?_
    rintro e ws ⟨A3, c3, A4, c4, rfl, r3, r4, gs⟩
    replace hr := hr.hold gs
    replace r1 := r1.hold gs
    replace r2 := r2.hold gs
    replace hG := hG.trans gs
    clear gs
    go_wp2_with fail
    refine (same_val _ _ _ _ _ _ _ _ _ rfl rfl (by omega) (by omega) r1 r3 true (by simp)).mono ?_
    rintro e ws ⟨rfl, gs⟩
    replace hr := hr.hold gs
    replace r2 := r2.hold gs
    replace r4 := r4.hold gs
    replace hG := hG.trans gs
    clear gs
    go_wp2_with fail
    refine (same_val _ _ _ _ _ _ _ _ _ rfl rfl (by omega) (by omega) r2 r4 true (by simp)).mono ?_
    rintro e ws ⟨rfl, gs⟩
    replace hr := hr.hold gs
    replace hG := hG.trans gs
    clear gs
    go_wp2_with fail
    refine (join_val _ _ _ _ _ rfl (by omega) hr k3 HK3.out).mono ?_
    rintro e ws ⟨A5, c5, rfl, r5, gs⟩
    replace hr := hr.hold gs
    replace hG := hG.trans gs
    clear gs
    go_wp2_with fail
    refine (refjoin_val rfl (by omega) hr k3 HK3.out).mono ?_
    rintro e ws ⟨A6, c6, rfl, r6, gs⟩
    replace r5 := r5.hold gs
    replace hG := hG.trans gs
    clear gs
    go_wp2_with fail
    refine (same_val _ _ _ _ _ _ _ _ _ rfl rfl (by omega) (by omega) r5 r6 true (by simp)).mono ?_
    rintro e ws ⟨rfl, gs⟩
    replace hG := hG.trans gs
    clear gs
    go_wp2_with fail
    go_ret
    exact ⟨rfl, hG⟩
  · go_enter Try.func3, Try.ntmps3
    go_wp2_with fail
    refine (awake_any _).mono ?_
    rintro e ws ⟨rfl, gs⟩
    replace hG := hG.trans gs
    clear gs
    go_wp2_with fail
    refine (awake_any _).mono ?_
    rintro e ws ⟨rfl, gs⟩
    replace hG := hG.trans gs
    clear gs
    go_wp2_with fail
    go_ret
    exact ⟨rfl, hG⟩
set_option maxRecDepth 100000 in
set_option maxHeartbeats 8000000 in
theorem extentSets_any (A1 A2 : Option Addr) (c1 c2 : Nat) (l1 l2 : List (Int × Int)) (t : Int) (t0 : -9223372036854775808 ≤ t) (t1 : t ≤ 9223372036854775807) (w : World) (hl1 : l1.length ≤ 9223372036854775807) (hl2 : l2.length ≤ 9223372036854775807) (hr1 : RunsAt w w.heap.size A1 l1) (hr2 : RunsAt w w.heap.size A2 l2) :
    Calls Try.prog 8 #[.slice A1 l1.length c1, .slice A2 l2.length c2, .int .i64 t] w fun e w' => e = .returned (.bool true) ∧ Grew w w' := by
  have hG := Grew.refl w
  by_cases h30 : l1.length ≤ 30
  · by_cases h31 : l2.length ≤ 30
    · obtain ⟨k1, hk1⟩ : ∃ k, ints (normS fun i => memS l1 i || memS l2 i) = k := ⟨_, rfl⟩
      obtain ⟨k2, hk2⟩ : ∃ k, ints (normS fun i => memS l1 i && memS l2 i) = k := ⟨_, rfl⟩
      obtain ⟨k3, hk3⟩ : ∃ k, ints (normS fun i => memS l1 i && !memS l2 i) = k := ⟨_, rfl⟩
      have hlk1 := normS_vlen _ hk1
      have hlk2 := normS_vlen _ hk2
      have hlk3 := normS_vlen _ hk3
      obtain ⟨b, hb⟩ : ∃ b, inT l1 t = b := ⟨_, rfl⟩
      have HK1 := Lib.hid hk1
      have HK2 := Lib.hid hk2
      have HK3 := Lib.hid hk3
      have HB := Lib.hid hb
      clear hk1 hk2 hk3 hb
      cases b
      · go_enter Try.func8, Try.ntmps8
        go_wp2_with fail
        refine (awake_any _).mono ?_
        rintro e ws ⟨rfl, gs⟩
        replace hr1 := hr1.hold gs
        replace hr2 := hr2.hold gs
        replace hG := hG.trans gs
        clear gs
        go_wp2_with fail
        refine (union_val rfl rfl (by omega) (by omega) hr1 hr2 k1 HK1.out).mono ?_
        rintro e ws ⟨A3, c3, rfl, r3, gs⟩
        replace hr1 := hr1.hold gs
        replace hr2 := hr2.hold gs
        replace hG := hG.trans gs
        clear gs
        go_wp2_with fail
        refine (setall_val rfl rfl (by omega) (by omega) hr1 hr2 k1 HK1.out).mono ?_
        rintro e ws ⟨A4, c4, rfl, r4, gs⟩
        replace hr1 := hr1.hold gs
        replace hr2 := hr2.hold gs
        replace r3 := r3.hold gs
        replace hG := hG.trans gs
        clear gs
        go_wp2_with fail
        refine (same_val _ _ _ _ _ _ _ _ _ rfl rfl (by omega) (by omega) r3 r4 true (by simp)).mono ?_
        rintro e ws ⟨rfl, gs⟩
        replace hr1 := hr1.hold gs
        replace hr2 := hr2.hold gs
        replace hG := hG.trans gs
        clear gs
        go_wp2_with fail
        refine (common_val rfl rfl (by omega) (by omega) hr1 hr2 k2 HK2.out).mono ?_
        rintro e ws ⟨A5, c5, rfl, r5, gs⟩
        replace hr1 := hr1.hold gs
        replace hr2 := hr2.hold gs
        replace hG := hG.trans gs
        clear gs
        go_wp2_with fail
        refine (setboth_val rfl rfl (by omega) (by omega) hr1 hr2 k2 HK2.out).mono ?_
        rintro e ws ⟨A6, c6, rfl, r6, gs⟩
        replace hr1 := hr1.hold gs
        replace hr2 := hr2.hold gs
        replace r5 := r5.hold gs
        replace hG := hG.trans gs
        clear gs
        go_wp2_with fail
        refine (same_val _ _ _ _ _ _ _ _ _ rfl rfl (by omega) (by omega) r5 r6 true (by simp)).mono ?_
        rintro e ws ⟨rfl, gs⟩
        replace hr1 := hr1.hold gs
        replace hr2 := hr2.hold gs
        replace hG := hG.trans gs
        clear gs
        go_wp2_with fail
        refine (minus_val rfl rfl (by omega) (by omega) hr1 hr2 k3 HK3.out).mono ?_
        rintro e ws ⟨A7, c7, rfl, r7, gs⟩
        replace hr1 := hr1.hold gs
        replace hr2 := hr2.hold gs
        replace hG := hG.trans gs
        clear gs
        go_wp2_with fail
        refine (setone_val rfl rfl (by omega) (by omega) hr1 hr2 k3 HK3.out).mono ?_
        rintro e ws ⟨A8, c8, rfl, r8, gs⟩
        replace hr1 := hr1.hold gs
        replace hr2 := hr2.hold gs
        replace r7 := r7.hold gs
        replace hG := hG.trans gs
        clear gs
        go_wp2_with fail
        refine (same_val _ _ _ _ _ _ _ _ _ rfl rfl (by omega) (by omega) r7 r8 true (by simp)).mono ?_
        rintro e ws ⟨rfl, gs⟩
        replace hr1 := hr1.hold gs
        replace hr2 := hr2.hold gs
        replace hG := hG.trans gs
        clear gs
        go_wp2_with fail
        refine (contains_val rfl (by omega) hr1 t t0 t1 false HB.out).mono ?_
        rintro e ws ⟨rfl, gs⟩
        replace hr1 := hr1.hold gs
        replace hr2 := hr2.hold gs
        replace hG := hG.trans gs
        clear gs
        go_wp2_with fail
        refine (in_val rfl (by omega) hr1 t t0 t1 false HB.out).mono ?_
        rintro e ws ⟨rfl, gs⟩
        replace hr1 := hr1.hold gs
        replace hr2 := hr2.hold gs
        replace hG := hG.trans gs
        clear gs
        go_wp2_with fail
        go_ret
        exact ⟨rfl, hG⟩
      · go_enter Try.func8, Try.ntmps8
        go_wp2_with fail
        refine (awake_any _).mono ?_
        rintro e ws ⟨rfl, gs⟩
        replace hr1 := hr1.hold gs
        replace hr2 := hr2.hold gs
        replace hG := hG.trans gs
        clear gs
        go_wp2_with fail
        refine (union_val rfl rfl (by omega) (by omega) hr1 hr2 k1 HK1.out).mono ?_
        rintro e ws ⟨A3, c3, rfl, r3, gs⟩
        replace hr1 := hr1.hold gs
        replace hr2 := hr2.hold gs
        replace hG := hG.trans gs
        clear gs
        go_wp2_with fail
        refine (setall_val rfl rfl (by omega) (by omega) hr1 hr2 k1 HK1.out).mono ?_
        rintro e ws ⟨A4, c4, rfl, r4, gs⟩
        replace hr1 := hr1.hold gs
        replace hr2 := hr2.hold gs
        replace r3 := r3.hold gs
        replace hG := hG.trans gs
        clear gs
        go_wp2_with fail
        refine (same_val _ _ _ _ _ _ _ _ _ rfl rfl (by omega) (by omega) r3 r4 true (by simp)).mono ?_
        rintro e ws ⟨rfl, gs⟩
        replace hr1 := hr1.hold gs
        replace hr2 := hr2.hold gs
        replace hG := hG.trans gs
        clear gs
        go_wp2_with fail
        refine (common_val rfl rfl (by omega) (by omega) hr1 hr2 k2 HK2.out).mono ?_
        rintro e ws ⟨A5, c5, rfl, r5, gs⟩
        replace hr1 := hr1.hold gs
        replace hr2 := hr2.hold gs
        replace hG := hG.trans gs
        clear gs
        go_wp2_with fail
        refine (setboth_val rfl rfl (by omega) (by omega) hr1 hr2 k2 HK2.out).mono ?_
        rintro e ws ⟨A6, c6, rfl, r6, gs⟩
        replace hr1 := hr1.hold gs
        replace hr2 := hr2.hold gs
        replace r5 := r5.hold gs
        replace hG := hG.trans gs
        clear gs
        go_wp2_with fail
        refine (same_val _ _ _ _ _ _ _ _ _ rfl rfl (by omega) (by omega) r5 r6 true (by simp)).mono ?_
        rintro e ws ⟨rfl, gs⟩
        replace hr1 := hr1.hold gs
        replace hr2 := hr2.hold gs
        replace hG := hG.trans gs
        clear gs
        go_wp2_with fail
        refine (minus_val rfl rfl (by omega) (by omega) hr1 hr2 k3 HK3.out).mono ?_
        rintro e ws ⟨A7, c7, rfl, r7, gs⟩
        replace hr1 := hr1.hold gs
        replace hr2 := hr2.hold gs
        replace hG := hG.trans gs
        clear gs
        go_wp2_with fail
        refine (setone_val rfl rfl (by omega) (by omega) hr1 hr2 k3 HK3.out).mono ?_
        rintro e ws ⟨A8, c8, rfl, r8, gs⟩
        replace hr1 := hr1.hold gs
        replace hr2 := hr2.hold gs
        replace r7 := r7.hold gs
        replace hG := hG.trans gs
        clear gs
        go_wp2_with fail
        refine (same_val _ _ _ _ _ _ _ _ _ rfl rfl (by omega) (by omega) r7 r8 true (by simp)).mono ?_
        rintro e ws ⟨rfl, gs⟩
        replace hr1 := hr1.hold gs
        replace hr2 := hr2.hold gs
        replace hG := hG.trans gs
        clear gs
        go_wp2_with fail
        refine (contains_val rfl (by omega) hr1 t t0 t1 true HB.out).mono ?_
        rintro e ws ⟨rfl, gs⟩
        replace hr1 := hr1.hold gs
        replace hr2 := hr2.hold gs
        replace hG := hG.trans gs
        clear gs
        go_wp2_with fail
        refine (in_val rfl (by omega) hr1 t t0 t1 true HB.out).mono ?_
        rintro e ws ⟨rfl, gs⟩
        replace hr1 := hr1.hold gs
        replace hr2 := hr2.hold gs
        replace hG := hG.trans gs
        clear gs
        go_wp2_with fail
        go_ret
        exact ⟨rfl, hG⟩
    · go_enter Try.func8, Try.ntmps8
      go_wp2_with fail
      refine (awake_any _).mono ?_
      rintro e ws ⟨rfl, gs⟩
      replace hG := hG.trans gs
      clear gs
      go_wp2_with fail
      refine (awake_any _).mono ?_
      rintro e ws ⟨rfl, gs⟩
      replace hG := hG.trans gs
      clear gs
      go_wp2_with fail
      go_ret
      exact ⟨rfl, hG⟩
  · go_enter Try.func8, Try.ntmps8
    go_wp2_with fail
    refine (awake_any _).mono ?_
    rintro e ws ⟨rfl, gs⟩
    replace hG := hG.trans gs
    clear gs
    go_wp2_with fail
    refine (awake_any _).mono ?_
    rintro e ws ⟨rfl, gs⟩
    replace hG := hG.trans gs
    clear gs
    go_wp2_with fail
    go_ret
    exact ⟨rfl, hG⟩
set_option maxRecDepth 100000 in
set_option maxHeartbeats 8000000 in
theorem extentLists_any (A : Option Addr) (c : Nat) (l : List (Int × Int)) (n : Int) (n0 : -9223372036854775808 ≤ n) (n1 : n ≤ 9223372036854775807) (w : World) (hl : l.length ≤ 9223372036854775807) (hr : RunsAt w w.heap.size A l) :
    Calls Try.prog 5 #[.slice A l.length c, .int .i64 n] w fun e w' => e = .returned (.bool true) ∧ Grew w w' := by
  have hG := Grew.refl w
  by_cases h30 : l.length ≤ 12
  · obtain ⟨⟨a, x⟩, hax⟩ : ∃ p : Int × Bool, (if n < 0 then (0, false) else atS l n) = p := ⟨_, rfl⟩
    obtain ⟨⟨i, z⟩, hiz⟩ : ∃ p : Int × Bool, idxS n l 0 = p := ⟨_, rfl⟩
    obtain ⟨s, hs⟩ : ∃ s, sizeS l = s := ⟨_, rfl⟩
    obtain ⟨d, hd⟩ : ∃ d, decide (seqS l).Nodup = d := ⟨_, rfl⟩
    have hsz := sizeS_le l
    rw [hs] at hsz
    have H1 := Lib.hid hax
    have H2 := Lib.hid hiz
    have H3 := Lib.hid hs
    have H4 := Lib.hid hd
    clear hax hiz hs hd
    cases d <;> cases x <;> cases z
    all_goals
      go_enter Try.func5, Try.ntmps5
      go_wp2_with fail
      refine (awake_any _).mono ?_
      rintro e ws ⟨rfl, gs⟩
      replace hr := hr.hold gs
      replace hG := hG.trans gs
      clear gs
      go_wp2_with fail
      refine (at_val _ _ _ _ _ rfl (by omega) hr n n0 n1 a _ H1.out).mono ?_
      rintro e ws ⟨rfl, gs⟩
      replace hr := hr.hold gs
      replace hG := hG.trans gs
      clear gs
      go_wp2_with fail
      refine (refat_val rfl (by omega) hr n n0 n1 a _ H1.out).mono ?_
      rintro e ws ⟨rfl, gs⟩
      replace hr := hr.hold gs
      replace hG := hG.trans gs
      clear gs
      go_wp2_with fail
      refine (index_val rfl (by omega) hr n n0 n1 i _ H2.out).mono ?_
      rintro e ws ⟨rfl, gs⟩
      replace hr := hr.hold gs
      replace hG := hG.trans gs
      clear gs
      go_wp2_with fail
      refine (refindex_val rfl (by omega) hr n n0 n1 i _ H2.out).mono ?_
      rintro e ws ⟨rfl, gs⟩
      replace hr := hr.hold gs
      replace hG := hG.trans gs
      clear gs
      go_wp2_with fail
      refine (size_val rfl (by omega) hr s H3.out).mono ?_
      rintro e ws ⟨rfl, gs⟩
      replace hr := hr.hold gs
      replace hG := hG.trans gs
      clear gs
      go_wp2_with fail
      refine (seq_val rfl (by omega) hr s H3.out).mono ?_
      rintro e ws ⟨A2, c2, rfl, gs⟩
      replace hr := hr.hold gs
      replace hG := hG.trans gs
      clear gs
      go_wp2_with fail
      refine (disjoint_val rfl (by omega) hr _ H4.out).mono ?_
      rintro e ws ⟨rfl, gs⟩
      replace hr := hr.hold gs
      replace hG := hG.trans gs
      clear gs
      go_wp2_with fail
      refine (refdisj_val rfl (by omega) hr _ H4.out).mono ?_
      rintro e ws ⟨rfl, gs⟩
      replace hr := hr.hold gs
      replace hG := hG.trans gs
      clear gs
      go_wp2_with fail
      go_ret
      exact ⟨rfl, hG⟩
  · go_enter Try.func5, Try.ntmps5
    go_wp2_with fail
    refine (awake_any _).mono ?_
    rintro e ws ⟨rfl, gs⟩
    replace hG := hG.trans gs
    clear gs
    go_wp2_with fail
    refine (awake_any _).mono ?_
    rintro e ws ⟨rfl, gs⟩
    replace hG := hG.trans gs
    clear gs
    go_wp2_with fail
    go_ret
    exact ⟨rfl, hG⟩
end Go.Proofs.Ytikifikophefdaa
