/- Chapter 6: SpaceKeeps. -/
import Derived.Test.YtenbcjlikoajdaaSpcAE
namespace Go.Proofs.Ytenbcjlikoajdaa
set_option linter.unusedVariables false
set_option linter.unusedSimpArgs false
set_option linter.unusedSectionVars false
open Go.RowKit
set_option maxRecDepth 100000 in
set_option maxHeartbeats 8000000 in
theorem spaceKeeps_any (A1 A2 : Option Addr) (c1 c2 : Nat) (l1 l2 : List (Int × Int)) (n : Int) (n0 : -9223372036854775808 ≤ n) (n1 : n ≤ 9223372036854775807) (w : World) (hl1 : l1.length ≤ 9223372036854775807) (hl2 : l2.length ≤ 9223372036854775807) (hr1 : RunsAt w w.heap.size A1 l1) (hr2 : RunsAt w w.heap.size A2 l2) :
    Calls Try.prog 9 #[.slice A1 l1.length c1, .slice A2 l2.length c2, .int .i64 n] w fun e w' => e = .returned (.bool true) ∧ Grew w w' := by
  have hG := Grew.refl w
  by_cases h30 : l1.length ≤ 30
  rotate_left
  · go_enter Try.func9, Try.ntmps9
    go_wp2_with fail
    refine (awake_any _).mono ?_
    rintro e ws ⟨rfl, gs⟩
    replace hG := hG.trans gs
    clear gs
    go_wp2_with fail
    refine (awake_any _).mono ?_
    rintro e ws ⟨rfl, gs⟩
    replace hG := hG.trans gs
    clear gs
    go_wp2_with fail
    go_ret
    exact ⟨rfl, hG⟩
  by_cases h31 : l2.length ≤ 30
  rotate_left
  · go_enter Try.func9, Try.ntmps9
    go_wp2_with fail
    refine (awake_any _).mono ?_
    rintro e ws ⟨rfl, gs⟩
    replace hG := hG.trans gs
    clear gs
    go_wp2_with fail
    refine (awake_any _).mono ?_
    rintro e ws ⟨rfl, gs⟩
    replace hG := hG.trans gs
    clear gs
    go_wp2_with fail
    go_ret
    exact ⟨rfl, hG⟩
  obtain ⟨k, hk⟩ : ∃ k, ints (extS l1 l2 n).1 = k := ⟨_, rfl⟩
  obtain ⟨er, he⟩ : ∃ er, (extS l1 l2 n).2 = er := ⟨_, rfl⟩
  by_cases her : er = 0
  rotate_left
  · have hk0 : k = [] := by rw [← hk, extS_err _ _ _ (by rw [he]; exact her)]; rfl
    have hne : (er != 0) = true := by simpa using her
    have HK := Lib.hid hk
    have HE := Lib.hid he
    clear hk he her
    subst hk0
    go_enter Try.func9, Try.ntmps9
    go_wp2_with fail
    refine (awake_any _).mono ?_
    rintro e ws ⟨rfl, gs⟩
    replace hr1 := hr1.hold gs
    replace hr2 := hr2.hold gs
    replace hG := hG.trans gs
    clear gs
    go_wp2_with fail
    refine (extend_val rfl rfl (by omega) (by omega) hr1 hr2 n n0 n1 [] er HK.out HE.out).mono ?_
    rintro e ws ⟨A3, c3, rfl, r3, gs⟩
    replace hG := hG.trans gs
    clear gs
    go_wp2_with fail
    go_ret
    exact ⟨rfl, hG⟩
  · subst her
    obtain ⟨M, e1, e2, e3, e4, e5, e6, e7, e8, e9⟩ := ext_ok l1 l2 n he
    rw [hk] at e1
    have hkl : k.length = (extS l1 l2 n).1.length := by rw [← hk, ints_len]
    obtain ⟨s, hs⟩ : ∃ s, sizeS l1 = s := ⟨_, rfl⟩
    rw [hs] at e7
    obtain ⟨f1, f2, f3, f4, f5, f6, f7, f8⟩ := keep_facts l1 l2 k n M s hs e1 e2 e3 e7 e5 e6
    obtain ⟨jl, hj⟩ : ∃ j, ints (joinS l1) = j := ⟨_, rfl⟩
    have hjl : jl.length = (joinS l1).length := by rw [← hj, ints_len]
    obtain ⟨mr, hm⟩ : ∃ m, ints (joinS (ints (cutB k s))) = m := ⟨_, rfl⟩
    have hml : mr.length ≤ k.length := by rw [← hm, ints_len]; exact Nat.le_trans (joinS_len _) (by rw [ints_len, cutB_len]; exact Nat.le_refl _)
    obtain ⟨nm, hnm⟩ : ∃ m, ints (normS (memS mr)) = m := ⟨_, rfl⟩
    have hnml : nm.length ≤ 128 := by rw [← hnm, ints_len]; exact normS_len _
    have hj30 : jl.length ≤ 30 := by have := joinS_len l1; omega
    have hsl := sizeS_le l1
    rw [hs] at hsl
    rw [hj] at f7
    rw [hm] at f3 f4 f5 f8
    rw [hnm] at f8
    obtain ⟨ks, hks⟩ : ∃ x, sizeS k = x := ⟨_, rfl⟩
    rw [hks] at f1
    have HCA := Lib.hid (show ints (joinS (ints (cutA k ((s : Nat) : Int).toNat))) = jl from by rw [Int.toNat_natCast, f2]; exact hj)
    have HCB := Lib.hid (show ints (joinS (ints (cutB k ((s : Nat) : Int).toNat))) = mr from by rw [Int.toNat_natCast]; exact hm)
    have HK := Lib.hid hk
    have HE := Lib.hid he
    have HS := Lib.hid hs
    have HKS := Lib.hid hks
    have HJ := Lib.hid hj
    have HNM := Lib.hid hnm
    have HD := Lib.hid (show decide (seqS mr).Nodup = true from by rw [f3]; exact decide_eq_true e5)
    have HM1 := Lib.hid (show ints (normS fun i => memS mr i && !memS l2 i) = [] from by rw [f4]; rfl)
    have HM2 := Lib.hid (show ints (normS fun i => memS mr i && memS l1 i) = [] from by rw [f5]; rfl)
    have HRE := Lib.hid f6
    have HRA := Lib.hid f7
    have HRB := Lib.hid f8
    have hlen : (k.length : Int) ≤ (jl.length : Int) ∨ (k.length : Int) ≤ 16 := by omega
    have hk1000 : k.length ≤ 30 := by omega
    have hkn : (ks : Int) = (s : Int) + n := f1
    have hkn2 : (((ks : Nat) : Int) != (s : Int) + n) = false := by rw [bne_eq_false_iff_eq]; exact hkn
    have HMX := Lib.hid hlen
    clear hk he hs hks hj hm hnm e1 e2 e5 e6 e8 e9 f1 f2 f3 f4 f5 f6 f7 f8 hkl hjl hkn hlen
    have HLT := Lib.hid (show decide (max (jl.length : Int) 16 < (k.length : Int)) = false from by rw [decide_eq_false_iff_not]; have := HMX.out; omega)
    go_enter Try.func9, Try.ntmps9
    go_wp2_with fail
    refine (awake_any _).mono ?_
    rintro e ws ⟨rfl, gs⟩
    replace hr1 := hr1.hold gs
    replace hr2 := hr2.hold gs
    replace hG := hG.trans gs
    clear gs
    go_wp2_with fail
    refine (extend_val rfl rfl (by omega) (by omega) hr1 hr2 n n0 n1 k 0 HK.out HE.out).mono ?_
    rintro e ws ⟨A3, c3, rfl, r3, gs⟩
    replace hr1 := hr1.hold gs
    replace hr2 := hr2.hold gs
    replace hG := hG.trans gs
    clear gs
    go_wp2_with fail
    refine (size_val rfl (by omega) hr1 s HS.out).mono ?_
    rintro e ws ⟨rfl, gs⟩
    replace hr1 := hr1.hold gs
    replace hr2 := hr2.hold gs
    replace r3 := r3.hold gs
    replace hG := hG.trans gs
    clear gs
    go_wp2_with fail
    refine (cut_val rfl (by omega) r3 (s : Int) (by omega) (by omega) jl mr HCA.out HCB.out).mono ?_
    rintro e ws ⟨A4, c4, A5, c5, rfl, r4, r5, gs⟩
    replace hr1 := hr1.hold gs
    replace hr2 := hr2.hold gs
    replace r3 := r3.hold gs
    replace hG := hG.trans gs
    clear gs
    go_wp2_with fail
    refine (size_val rfl (by omega) r3 ks HKS.out).mono ?_
    rintro e ws ⟨rfl, gs⟩
    replace hr1 := hr1.hold gs
    replace hr2 := hr2.hold gs
    replace r3 := r3.hold gs
    replace r4 := r4.hold gs
    replace r5 := r5.hold gs
    replace hG := hG.trans gs
    clear gs
    go_wp2_with fail
    refine (join_val _ _ _ _ _ rfl (by omega) hr1 jl HJ.out).mono ?_
    rintro e ws ⟨A6, c6, rfl, r6, gs⟩
    replace hr1 := hr1.hold gs
    replace hr2 := hr2.hold gs
    replace r3 := r3.hold gs
    replace r4 := r4.hold gs
    replace r5 := r5.hold gs
    replace hG := hG.trans gs
    clear gs
    go_wp2_with fail
    refine (same_val _ _ _ _ _ _ _ _ _ rfl rfl (by omega) (by omega) r4 r6 true (by simp)).mono ?_
    rintro e ws ⟨rfl, gs⟩
    replace hr1 := hr1.hold gs
    replace hr2 := hr2.hold gs
    replace r3 := r3.hold gs
    replace r4 := r4.hold gs
    replace r5 := r5.hold gs
    replace hG := hG.trans gs
    clear gs
    go_wp2_with fail
    refine (disjoint_val rfl (by omega) r5 true HD.out).mono ?_
    rintro e ws ⟨rfl, gs⟩
    replace hr1 := hr1.hold gs
    replace hr2 := hr2.hold gs
    replace r3 := r3.hold gs
    replace r4 := r4.hold gs
    replace r5 := r5.hold gs
    replace hG := hG.trans gs
    clear gs
    go_wp2_with fail
    refine (minus_val rfl rfl (by omega) (by omega) r5 hr2 [] HM1.out).mono ?_
    rintro e ws ⟨A7, c7, rfl, r7, gs⟩
    replace hr1 := hr1.hold gs
    replace hr2 := hr2.hold gs
    replace r3 := r3.hold gs
    replace r4 := r4.hold gs
    replace r5 := r5.hold gs
    replace hG := hG.trans gs
    clear gs
    go_wp2_with fail
    refine (common_val rfl rfl (by omega) (by omega) r5 hr1 [] HM2.out).mono ?_
    rintro e ws ⟨A8, c8, rfl, r8, gs⟩
    replace hr1 := hr1.hold gs
    replace hr2 := hr2.hold gs
    replace r3 := r3.hold gs
    replace r4 := r4.hold gs
    replace r5 := r5.hold gs
    replace hG := hG.trans gs
    clear gs
    go_wp2_with fail
    refine (join_val _ _ _ _ _ rfl (by omega) hr1 jl HJ.out).mono ?_
    rintro e ws ⟨A9, c9, rfl, r9, gs⟩
    replace hr1 := hr1.hold gs
    replace hr2 := hr2.hold gs
    replace r3 := r3.hold gs
    replace r4 := r4.hold gs
    replace r5 := r5.hold gs
    replace hG := hG.trans gs
    clear gs
    have hlt := HLT.out
    go_wp2_with fail
    refine (release_val rfl (by omega) r3 (s : Int) (by omega) (by omega) jl nm 0 HRA.out HRB.out HRE.out).mono ?_
    rintro e ws ⟨B1, d1, B2, d2, rfl, q1, q2, gs⟩
    replace hr1 := hr1.hold gs
    replace hr2 := hr2.hold gs
    replace r3 := r3.hold gs
    replace r4 := r4.hold gs
    replace r5 := r5.hold gs
    replace hG := hG.trans gs
    clear gs
    clear hlt
    go_wp2_with fail
    refine (join_val _ _ _ _ _ rfl (by omega) hr1 jl HJ.out).mono ?_
    rintro e ws ⟨A10, c10, rfl, r10, gs⟩
    replace hr1 := hr1.hold gs
    replace hr2 := hr2.hold gs
    replace r3 := r3.hold gs
    replace r4 := r4.hold gs
    replace r5 := r5.hold gs
    replace q1 := q1.hold gs
    replace q2 := q2.hold gs
    replace hG := hG.trans gs
    clear gs
    go_wp2_with fail
    refine (same_val _ _ _ _ _ _ _ _ _ rfl rfl (by omega) (by omega) q1 r10 true (by simp)).mono ?_
    rintro e ws ⟨rfl, gs⟩
    replace hr1 := hr1.hold gs
    replace hr2 := hr2.hold gs
    replace r3 := r3.hold gs
    replace r4 := r4.hold gs
    replace r5 := r5.hold gs
    replace q2 := q2.hold gs
    replace hG := hG.trans gs
    clear gs
    go_wp2_with fail
    refine (normal_val _ _ _ _ _ rfl (by omega) r5 nm HNM.out).mono ?_
    rintro e ws ⟨A11, c11, rfl, r11, gs⟩
    replace q2 := q2.hold gs
    replace hG := hG.trans gs
    clear gs
    go_wp2_with fail
    refine (same_val _ _ _ _ _ _ _ _ _ rfl rfl (by omega) (by omega) q2 r11 true (by simp)).mono ?_
    rintro e ws ⟨rfl, gs⟩
    replace hG := hG.trans gs
    clear gs
    go_wp2_with fail
    go_ret
    exact ⟨rfl, hG⟩
end Go.Proofs.Ytenbcjlikoajdaa
