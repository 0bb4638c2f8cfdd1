/- The walks of ExtentSizes, ExtentEqual and ExtentParts. -/
import Derived.Test.YtikifikophefdaaExtLA
namespace Go.Proofs.Ytikifikophefdaa
set_option linter.unusedVariables false
set_option linter.unusedSimpArgs false
set_option linter.unusedSectionVars false
open Go.RowKit
theorem runC_len (k : List (Int × Int)) : ∀ r ∈ k.map runC, r.length = 2 := by
  intro r hr
  obtain ⟨x, _, rfl⟩ := List.mem_map.1 hr
  rfl
theorem runC_one (k : List (Int × Int)) : ∀ r ∈ k.map runC, r.all (·.oneCell') = true := by
  intro r hr
  obtain ⟨x, _, rfl⟩ := List.mem_map.1 hr
  rfl
theorem sizeS_append (a b : List (Int × Int)) : sizeS (a ++ b) = sizeS a + sizeS b := by simp [sizeS]
theorem memS_append (a b : List (Int × Int)) (i : Nat) : memS (a ++ b) i = (memS a i || memS b i) := by simp [memS]
section
variable (p q : Nat → Bool)
theorem parts_mem (i : Nat) (hi : i < 128) : memS (ints (normS fun i => p i && q i) ++ ints (normS fun i => p i && !q i) ++ ints (normS fun i => q i && !p i)) i = (p i || q i) := by
  rw [memS_append, memS_append, memS_normS _ i hi, memS_normS _ i hi, memS_normS _ i hi]
  cases p i <;> cases q i <;> rfl
theorem parts_norm : normS (memS (ints (normS fun i => p i && q i) ++ ints (normS fun i => p i && !q i) ++ ints (normS fun i => q i && !p i))) = normS fun i => p i || q i :=
  normS_congr (parts_mem p q)
theorem parts_disj : (seqS (ints (normS fun i => p i && q i) ++ ints (normS fun i => p i && !q i) ++ ints (normS fun i => q i && !p i))).Nodup := by
  rw [← disjS, parts_norm, sizeS_append, sizeS_append, sizeS_normS, sizeS_normS, sizeS_normS, sizeS_normS]
  exact count_parts p q _
theorem sizes_sum : sizeS (ints (normS fun i => p i || q i)) + sizeS (ints (normS fun i => p i && q i)) = sizeS (ints (normS p)) + sizeS (ints (normS q)) := by
  rw [sizeS_normS, sizeS_normS, sizeS_normS, sizeS_normS]
  exact count_or p q _
theorem minus_union : (normS fun i => memS (ints (normS fun i => p i || q i)) i && !memS (ints (normS q)) i) = normS fun i => p i && !q i :=
  normS_congr fun i hi => by rw [memS_normS _ i hi, memS_normS _ i hi]; cases p i <;> cases q i <;> rfl
end
set_option maxRecDepth 100000 in
set_option maxHeartbeats 8000000 in
theorem extentSizes_any (A1 A2 : Option Addr) (c1 c2 : Nat) (l1 l2 : List (Int × Int)) (w : World) (hl1 : l1.length ≤ 9223372036854775807) (hl2 : l2.length ≤ 9223372036854775807) (hr1 : RunsAt w w.heap.size A1 l1) (hr2 : RunsAt w w.heap.size A2 l2) :
    Calls Try.prog 6 #[.slice A1 l1.length c1, .slice A2 l2.length c2] w fun e w' => e = .returned (.bool true) ∧ Grew w w' := by
  have hG := Grew.refl w
  by_cases h30 : l1.length ≤ 30
  · by_cases h31 : l2.length ≤ 30
    · obtain ⟨kx, hkx⟩ : ∃ k, ints (normS (memS l1)) = k := ⟨_, rfl⟩
      obtain ⟨ky, hky⟩ : ∃ k, ints (normS (memS l2)) = k := ⟨_, rfl⟩
      obtain ⟨ku, hku⟩ : ∃ k, ints (normS fun i => memS l1 i || memS l2 i) = k := ⟨_, rfl⟩
      obtain ⟨kc, hkc⟩ : ∃ k, ints (normS fun i => memS l1 i && memS l2 i) = k := ⟨_, rfl⟩
      obtain ⟨km, hkm⟩ : ∃ k, ints (normS fun i => memS l1 i && !memS l2 i) = k := ⟨_, rfl⟩
      obtain ⟨kn, hkn⟩ : ∃ k, ints (normS fun i => memS l2 i && !memS l1 i) = k := ⟨_, rfl⟩
      have hlx := normS_vlen _ hkx
      have hly := normS_vlen _ hky
      have hlu := normS_vlen _ hku
      have hlc := normS_vlen _ hkc
      have hlm := normS_vlen _ hkm
      have hln := normS_vlen _ hkn
      have hsum := sizes_sum (memS l1) (memS l2)
      have HD := Lib.hid (show decide (seqS (kc ++ km ++ kn)).Nodup = true from by rw [decide_eq_true_eq, ← hkc, ← hkm, ← hkn]; exact parts_disj _ _)
      have HN := Lib.hid (show ints (normS (memS (kc ++ km ++ kn))) = ku from by rw [← hkc, ← hkm, ← hkn, ← hku, parts_norm])
      have HM := Lib.hid (show ints (normS fun i => memS ku i && !memS ky i) = km from by rw [← hku, ← hky, ← hkm, minus_union])
      rw [hku, hkc, hkx, hky] at hsum
      have hsu := sizeS_le ku
      have hsc := sizeS_le kc
      have hsx := sizeS_le kx
      have hsy := sizeS_le ky
      obtain ⟨su, hsu'⟩ : ∃ s, sizeS ku = s := ⟨_, rfl⟩
      obtain ⟨sc, hsc'⟩ : ∃ s, sizeS kc = s := ⟨_, rfl⟩
      obtain ⟨sx, hsx'⟩ : ∃ s, sizeS kx = s := ⟨_, rfl⟩
      obtain ⟨sy, hsy'⟩ : ∃ s, sizeS ky = s := ⟨_, rfl⟩
      rw [hsu', hsc', hsx', hsy'] at hsum
      rw [hsu'] at hsu
      rw [hsc'] at hsc
      rw [hsx'] at hsx
      rw [hsy'] at hsy
      have hbs : (((su : Int) + (sc : Int)) != ((sx : Int) + (sy : Int))) = false := by rw [bne_eq_false_iff_eq]; omega
      have HX := Lib.hid hkx
      have HY := Lib.hid hky
      have HU := Lib.hid hku
      have HC := Lib.hid hkc
      have HMN := Lib.hid hkm
      have HNN := Lib.hid hkn
      have SU := Lib.hid hsu'
      have SC := Lib.hid hsc'
      have SX := Lib.hid hsx'
      have SY := Lib.hid hsy'
      clear hkx hky hku hkc hkm hkn hsu' hsc' hsx' hsy' hsum
      go_enter Try.func6, Try.ntmps6
      go_wp2_with fail
      refine (awake_any _).mono ?_
      rintro e ws ⟨rfl, gs⟩
      replace hr1 := hr1.hold gs
      replace hr2 := hr2.hold gs
      replace hG := hG.trans gs
      clear gs
      go_wp2_with fail
      refine (normal_val _ _ _ _ _ rfl (by omega) hr1 kx HX.out).mono ?_
      rintro e ws ⟨Ax, cx, rfl, rx, gs⟩
      replace hr1 := hr1.hold gs
      replace hr2 := hr2.hold gs
      replace hG := hG.trans gs
      clear gs
      go_wp2_with fail
      refine (normal_val _ _ _ _ _ rfl (by omega) hr2 ky HY.out).mono ?_
      rintro e ws ⟨Ay, cy, rfl, ry, gs⟩
      replace hr1 := hr1.hold gs
      replace hr2 := hr2.hold gs
      replace rx := rx.hold gs
      replace hG := hG.trans gs
      clear gs
      go_wp2_with fail
      refine (union_val rfl rfl (by omega) (by omega) hr1 hr2 ku HU.out).mono ?_
      rintro e ws ⟨Au, cu, rfl, ru, gs⟩
      replace hr1 := hr1.hold gs
      replace hr2 := hr2.hold gs
      replace rx := rx.hold gs
      replace ry := ry.hold gs
      replace hG := hG.trans gs
      clear gs
      go_wp2_with fail
      refine (common_val rfl rfl (by omega) (by omega) hr1 hr2 kc HC.out).mono ?_
      rintro e ws ⟨Ac, cc, rfl, rc, gs⟩
      replace hr1 := hr1.hold gs
      replace hr2 := hr2.hold gs
      replace rx := rx.hold gs
      replace ry := ry.hold gs
      replace ru := ru.hold gs
      replace hG := hG.trans gs
      clear gs
      go_wp2_with fail
      refine (size_val rfl (by omega) ru su SU.out).mono ?_
      rintro e ws ⟨rfl, gs⟩
      replace hr1 := hr1.hold gs
      replace hr2 := hr2.hold gs
      replace rx := rx.hold gs
      replace ry := ry.hold gs
      replace ru := ru.hold gs
      replace rc := rc.hold gs
      replace hG := hG.trans gs
      clear gs
      go_wp2_with fail
      refine (size_val rfl (by omega) rc sc SC.out).mono ?_
      rintro e ws ⟨rfl, gs⟩
      replace hr1 := hr1.hold gs
      replace hr2 := hr2.hold gs
      replace rx := rx.hold gs
      replace ry := ry.hold gs
      replace ru := ru.hold gs
      replace rc := rc.hold gs
      replace hG := hG.trans gs
      clear gs
      go_wp2_with fail
      refine (size_val rfl (by omega) rx sx SX.out).mono ?_
      rintro e ws ⟨rfl, gs⟩
      replace hr1 := hr1.hold gs
      replace hr2 := hr2.hold gs
      replace rx := rx.hold gs
      replace ry := ry.hold gs
      replace ru := ru.hold gs
      replace rc := rc.hold gs
      replace hG := hG.trans gs
      clear gs
      go_wp2_with fail
      refine (size_val rfl (by omega) ry sy SY.out).mono ?_
      rintro e wb ⟨rfl, gs⟩
      replace hr1 := hr1.hold gs
      replace hr2 := hr2.hold gs
      replace ry := ry.hold gs
      replace ru := ru.hold gs
      replace rc := rc.hold gs
      replace hG := hG.trans gs
      clear gs rx
      have hbb := hG.size
      go_wp2_with (at_builtin; refine wpList_pushAll (by rfl) _ _ 22 rfl wb.heap.size 42 2 16 _ Try.underlying22 info_run rfl (by decide) _ [] (kc.map runC) (by rfl) (OwnL.empty wb _ _ _ (Nat.le_refl _) rfl) _ kc.length _ (by rfl) (by simp) (runC_len _) (rc.hold ((Grew.refl wb).alloc _)).2 (runC_one _) (by simp; omega) (by simp; omega) (by simp) ?_; intro v1 w3 hown1 hgr1 hat1)
      have g3 : Grew wb w3 := Grew.own ((Grew.refl wb).alloc _) hgr1 (by simp [Value.ownBlock]) (Nat.le_refl _)
      clear hgr1 hat1
      go_wp2_with fail
      refine (minus_val rfl rfl (by omega) (by omega) (hr1.hold g3) (hr2.hold g3) km HMN.out).mono ?_
      rintro e w4 ⟨Am, cm, rfl, rm, g4⟩
      replace hown1 := hown1.grew g4
      replace g3 := g3.trans g4
      clear g4
      have hz4 := g3.size
      go_wp2_with (at_builtin; refine wpList_pushAll (by rfl) _ _ 22 rfl wb.heap.size 42 2 16 _ Try.underlying22 info_run rfl (by decide) _ ([] ++ kc.map runC) (km.map runC) (by rfl) hown1 _ km.length _ (by rfl) (by simp) (runC_len _) rm.2 (runC_one _) (by simp; omega) (by simp; omega) hz4 ?_; intro v2 w5 hown2 hgr2 hat2)
      have g5 : Grew wb w5 := Grew.own g3 hgr2 hown1.row_ge (Nat.le_refl _)
      clear hgr2 hat2 hown1 g3
      go_wp2_with fail
      refine (minus_val rfl rfl (by omega) (by omega) (hr2.hold g5) (hr1.hold g5) kn HNN.out).mono ?_
      rintro e w6 ⟨An, cn, rfl, rn, g6⟩
      replace hown2 := hown2.grew g6
      replace g5 := g5.trans g6
      clear g6
      have hz6 := g5.size
      go_wp2_with (at_builtin; refine wpList_pushAll (by rfl) _ _ 22 rfl wb.heap.size 42 2 16 _ Try.underlying22 info_run rfl (by decide) _ ([] ++ kc.map runC ++ km.map runC) (kn.map runC) (by rfl) hown2 _ kn.length _ (by rfl) (by simp) (runC_len _) rn.2 (runC_one _) (by simp; omega) (by simp; omega) hz6 ?_; intro v3 w7 hown3 hgr3 hat3)
      have g7 : Grew wb w7 := Grew.own g5 hgr3 hown2.row_ge (Nat.le_refl _)
      clear hgr3 hat3 hown2 g5
      obtain ⟨P, hP⟩ : ∃ P, kc ++ km ++ kn = P := ⟨_, rfl⟩
      have hlp : P.length ≤ 400 := by rw [← hP]; simp; omega
      rw [show [] ++ kc.map runC ++ km.map runC ++ kn.map runC = P.map runC from by rw [← hP]; simp] at hown3
      rw [hP] at HD HN
      obtain ⟨Ap, cp, rfl, rp⟩ := own_runsI hown3 (by
        intro r hr
        rw [← hP] at hr
        rcases List.mem_append.1 hr with hr | hr
        · rcases List.mem_append.1 hr with hr | hr
          · exact rc.1 r hr
          · exact rm.1 r hr
        · exact rn.1 r hr)
      clear hP hown3
      replace hr1 := hr1.hold g7
      replace hr2 := hr2.hold g7
      replace ry := ry.hold g7
      replace ru := ru.hold g7
      replace hG := hG.trans g7
      go_wp2_with fail
      refine (disjoint_val rfl (by omega) rp true HD.out).mono ?_
      rintro e ws ⟨rfl, gs⟩
      replace hr1 := hr1.hold gs
      replace hr2 := hr2.hold gs
      replace ry := ry.hold gs
      replace ru := ru.hold gs
      replace rp := rp.hold gs
      replace hG := hG.trans gs
      clear gs
      go_wp2_with fail
      refine (normal_val _ _ _ _ _ rfl (by omega) rp ku HN.out).mono ?_
      rintro e ws ⟨Aq, cq, rfl, rq, gs⟩
      replace hr1 := hr1.hold gs
      replace hr2 := hr2.hold gs
      replace ry := ry.hold gs
      replace ru := ru.hold gs
      replace hG := hG.trans gs
      clear gs
      go_wp2_with fail
      refine (same_val _ _ _ _ _ _ _ _ _ rfl rfl (by omega) (by omega) rq ru true (by simp)).mono ?_
      rintro e ws ⟨rfl, gs⟩
      replace hr1 := hr1.hold gs
      replace hr2 := hr2.hold gs
      replace ry := ry.hold gs
      replace ru := ru.hold gs
      replace hG := hG.trans gs
      clear gs
      go_wp2_with fail
      refine (minus_val rfl rfl (by omega) (by omega) ru ry km HM.out).mono ?_
      rintro e ws ⟨As, cs, rfl, rs, gs⟩
      replace hr1 := hr1.hold gs
      replace hr2 := hr2.hold gs
      replace hG := hG.trans gs
      clear gs
      go_wp2_with fail
      refine (minus_val rfl rfl (by omega) (by omega) hr1 hr2 km HMN.out).mono ?_
      rintro e ws ⟨At, ct, rfl, rt, gs⟩
      replace rs := rs.hold gs
      replace hG := hG.trans gs
      clear gs
      go_wp2_with fail
      refine (same_val _ _ _ _ _ _ _ _ _ rfl rfl (by omega) (by omega) rs rt true (by simp)).mono ?_
      rintro e ws ⟨rfl, gs⟩
      replace hG := hG.trans gs
      clear gs
      go_wp2_with fail
      go_ret
      exact ⟨rfl, hG⟩
    · go_enter Try.func6, Try.ntmps6
      go_wp2_with fail
      refine (awake_any _).mono ?_
      rintro e ws ⟨rfl, gs⟩
      replace hG := hG.trans gs
      clear gs
      go_wp2_with fail
      refine (awake_any _).mono ?_
      rintro e ws ⟨rfl, gs⟩
      replace hG := hG.trans gs
      clear gs
      go_wp2_with fail
      go_ret
      exact ⟨rfl, hG⟩
  · go_enter Try.func6, Try.ntmps6
    go_wp2_with fail
    refine (awake_any _).mono ?_
    rintro e ws ⟨rfl, gs⟩
    replace hG := hG.trans gs
    clear gs
    go_wp2_with fail
    refine (awake_any _).mono ?_
    rintro e ws ⟨rfl, gs⟩
    replace hG := hG.trans gs
    clear gs
    go_wp2_with fail
    go_ret
    exact ⟨rfl, hG⟩
end Go.Proofs.Ytikifikophefdaa
