/- The walk of ExtentEqual. -/
import Derived.Test.YtikifikophefdaaExtLA
namespace Go.Proofs.Ytikifikophefdaa
set_option linter.unusedVariables false
set_option linter.unusedSimpArgs false
set_option linter.unusedSectionVars false
open Go.RowKit
theorem inT_out (l : List (Int × Int)) (t : Int) (h : t < 0 ∨ 128 ≤ t) : inT l t = false := by
  rw [Bool.eq_false_iff]
  intro ht
  unfold inT at ht
  obtain ⟨r, _, hr⟩ := List.any_eq_true.1 ht
  rw [decide_eq_true_eq] at hr
  have := clipS_le r
  omega
theorem inT_norm (S : Nat → Bool) (F : Int → Bool) (h : ∀ n : Nat, n < 128 → S n = F n) (h0 : ∀ t, t < 0 ∨ 128 ≤ t → F t = false) (t : Int) : inT (ints (normS S)) t = F t := by
  by_cases ht : t < 0 ∨ 128 ≤ t
  · rw [inT_out _ _ ht, h0 t ht]
  · obtain ⟨n, rfl⟩ : ∃ n : Nat, t = (n : Int) := ⟨t.toNat, by omega⟩
    rw [inT_nat, memS_normS S n (by omega), h n (by omega)]
def eqTo (l1 l2 : List (Int × Int)) : Nat → Bool
  | 0 => true
  | k + 1 => eqTo l1 l2 k && (inT l1 ((k : Int) - 1) == inT l2 ((k : Int) - 1))
theorem eqTo_iff (l1 l2 : List (Int × Int)) (k : Nat) : eqTo l1 l2 k = true ↔ ∀ i : Nat, i < k → inT l1 ((i : Int) - 1) = inT l2 ((i : Int) - 1) := by
  induction k with
  | zero => simp [eqTo]
  | succ k ih =>
    rw [eqTo, Bool.and_eq_true, ih, beq_iff_eq]
    constructor
    · rintro ⟨h1, h2⟩ i hi
      by_cases e : i = k
      · rw [e]; exact h2
      · exact h1 i (by omega)
    · intro h
      exact ⟨fun i hi => h i (by omega), h k (by omega)⟩
theorem eqTo_end (l1 l2 : List (Int × Int)) : eqTo l1 l2 130 = decide (ints (normS (memS l1)) = ints (normS (memS l2))) := by
  rw [Bool.eq_iff_iff, eqTo_iff, decide_eq_true_eq]
  constructor
  · intro h
    rw [normS_congr (S := memS l1) (T := memS l2) fun i hi => by
      have := h (i + 1) (by omega)
      rw [show (((i + 1 : Nat) : Int) - 1) = (i : Int) from by omega, inT_nat, inT_nat] at this
      exact this]
  · intro h i _
    by_cases ht : ((i : Int) - 1) < 0 ∨ 128 ≤ ((i : Int) - 1)
    · rw [inT_out _ _ ht, inT_out _ _ ht]
    · obtain ⟨n, hn⟩ : ∃ n : Nat, ((i : Int) - 1) = (n : Int) := ⟨((i : Int) - 1).toNat, by omega⟩
      rw [hn, inT_nat, inT_nat]
      exact normS_inj (ints_inj h) n (by omega)
set_option maxRecDepth 100000 in
set_option maxHeartbeats 16000000 in
theorem extentEqual_any (A1 A2 : Option Addr) (c1 c2 : Nat) (l1 l2 : List (Int × Int)) (w : World) (hl1 : l1.length ≤ 9223372036854775807) (hl2 : l2.length ≤ 9223372036854775807) (hr1 : RunsAt w w.heap.size A1 l1) (hr2 : RunsAt w w.heap.size A2 l2) :
    Calls Try.prog 9 #[.slice A1 l1.length c1, .slice A2 l2.length c2] w fun e w' => e = .returned (.bool true) ∧ Grew w w' := by
  have hG := Grew.refl w
  by_cases h30 : l1.length ≤ 30
  · by_cases h31 : l2.length ≤ 30
    · obtain ⟨kx, hkx⟩ : ∃ k, ints (normS (memS l1)) = k := ⟨_, rfl⟩
      obtain ⟨ky, hky⟩ : ∃ k, ints (normS (memS l2)) = k := ⟨_, rfl⟩
      obtain ⟨ku, hku⟩ : ∃ k, ints (normS fun i => memS l1 i || memS l2 i) = k := ⟨_, rfl⟩
      obtain ⟨kc, hkc⟩ : ∃ k, ints (normS fun i => memS l1 i && memS l2 i) = k := ⟨_, rfl⟩
      obtain ⟨km, hkm⟩ : ∃ k, ints (normS fun i => memS l1 i && !memS l2 i) = k := ⟨_, rfl⟩
      have hlx := normS_vlen _ hkx
      have hly := normS_vlen _ hky
      have hlu := normS_vlen _ hku
      have hlc := normS_vlen _ hkc
      have hlm := normS_vlen _ hkm
      have VU := Lib.hid (show decide (ku = ints (normS (memS ku))) = true from by subst hku; rw [normS_norm, decide_eq_true_eq])
      have VC := Lib.hid (show decide (kc = ints (normS (memS kc))) = true from by subst hkc; rw [normS_norm, decide_eq_true_eq])
      have VM := Lib.hid (show decide (km = ints (normS (memS km))) = true from by subst hkm; rw [normS_norm, decide_eq_true_eq])
      have TU := Lib.hid (fun t => (show inT ku t = (inT l1 t || inT l2 t) from by
        rw [← hku]; exact inT_norm _ (fun t => inT l1 t || inT l2 t) (fun n _ => by simp only [inT_nat]) (fun t ht => by simp only [inT_out _ _ ht]; rfl) t))
      have TC := Lib.hid (fun t => (show inT kc t = (inT l1 t && inT l2 t) from by
        rw [← hkc]; exact inT_norm _ (fun t => inT l1 t && inT l2 t) (fun n _ => by simp only [inT_nat]) (fun t ht => by simp only [inT_out _ _ ht]; rfl) t))
      have TM := Lib.hid (fun t => (show inT km t = (inT l1 t && !inT l2 t) from by
        rw [← hkm]; exact inT_norm _ (fun t => inT l1 t && !inT l2 t) (fun n _ => by simp only [inT_nat]) (fun t ht => by simp only [inT_out _ _ ht]; rfl) t))
      have HE := Lib.hid (show eqTo l1 l2 130 = decide (kx = ky) from by rw [eqTo_end, hkx, hky])
      have HX := Lib.hid hkx
      have HY := Lib.hid hky
      have HU := Lib.hid hku
      have HC := Lib.hid hkc
      have HM := Lib.hid hkm
      clear hkx hky hku hkc hkm
      go_enter Try.func9, Try.ntmps9
      go_wp2_with fail
      refine (awake_any _).mono ?_
      rintro e ws ⟨rfl, gs⟩
      replace hr1 := hr1.hold gs
      replace hr2 := hr2.hold gs
      replace hG := hG.trans gs
      clear gs
      go_wp2_with fail
      refine (union_val rfl rfl (by omega) (by omega) hr1 hr2 ku HU.out).mono ?_
      rintro e ws ⟨Au, cu, rfl, ru, gs⟩
      replace hr1 := hr1.hold gs
      replace hr2 := hr2.hold gs
      replace hG := hG.trans gs
      clear gs
      go_wp2_with fail
      refine (common_val rfl rfl (by omega) (by omega) hr1 hr2 kc HC.out).mono ?_
      rintro e ws ⟨Ac, cc, rfl, rc, gs⟩
      replace hr1 := hr1.hold gs
      replace hr2 := hr2.hold gs
      replace ru := ru.hold gs
      replace hG := hG.trans gs
      clear gs
      go_wp2_with fail
      refine (minus_val rfl rfl (by omega) (by omega) hr1 hr2 km HM.out).mono ?_
      rintro e ws ⟨Am, cm, rfl, rm, gs⟩
      replace hr1 := hr1.hold gs
      replace hr2 := hr2.hold gs
      replace ru := ru.hold gs
      replace rc := rc.hold gs
      replace hG := hG.trans gs
      clear gs
      go_wp2_with fail
      refine (valid_val rfl (by omega) ru true VU.out).mono ?_
      rintro e ws ⟨rfl, gs⟩
      replace hr1 := hr1.hold gs
      replace hr2 := hr2.hold gs
      replace ru := ru.hold gs
      replace rc := rc.hold gs
      replace rm := rm.hold gs
      replace hG := hG.trans gs
      clear gs
      go_wp2_with fail
      refine (valid_val rfl (by omega) rc true VC.out).mono ?_
      rintro e ws ⟨rfl, gs⟩
      replace hr1 := hr1.hold gs
      replace hr2 := hr2.hold gs
      replace ru := ru.hold gs
      replace rc := rc.hold gs
      replace rm := rm.hold gs
      replace hG := hG.trans gs
      clear gs
      go_wp2_with fail
      refine (valid_val rfl (by omega) rm true VM.out).mono ?_
      rintro e wb ⟨rfl, gs⟩
      replace hr1 := hr1.hold gs
      replace hr2 := hr2.hold gs
      replace ru := ru.hold gs
      replace rc := rc.hold gs
      replace rm := rm.hold gs
      replace hG := hG.trans gs
      clear gs
      go_wp2_with fail
      go_loopg [8, 9] 130 (fun gk sm i wr => ∃ (k : Nat) (t : Int), k ≤ 130 ∧ gk = 130 - k ∧ t = (k : Int) - 1 ∧ i = .int .i64 t ∧ sm = .bool (eqTo l1 l2 k) ∧ Grew wb wr)
      case atStart => exact ⟨0, -1, by omega, by omega, rfl, rfl, rfl, Grew.refl _⟩
      case round =>
        obtain ⟨k, t, hk, hgk, ht, rfl, rfl, hg⟩ := hrel
        have ht0 : -1 ≤ t := by omega
        have ht1 : t ≤ 129 := by omega
        have HGK := Lib.hid hgk
        replace hr1 := hr1.hold hg
        replace hr2 := hr2.hold hg
        replace ru := ru.hold hg
        replace rc := rc.hold hg
        replace rm := rm.hold hg
        replace hG := hG.trans hg
        have hGB := hG
        clear hG
        have hG := hg
        clear hgk
        by_cases hlt : k < 130
        · have ht2 : t ≤ 128 := by omega
          have hxy : inT l1 t = true ∨ inT l2 t = true → 0 ≤ t ∧ t < 128 := fun h => by
            by_cases ho : t < 0 ∨ 128 ≤ t
            · rw [inT_out _ _ ho, inT_out _ _ ho] at h; simp at h
            · omega
          have he : eqTo l1 l2 (k + 1) = (eqTo l1 l2 k && (inT l1 t == inT l2 t)) := by rw [eqTo, ← ht]
          have tu := TU.out t
          have tc := TC.out t
          have tm := TM.out t
          have HT := Lib.hid (show t + 1 = ((k + 1 : Nat) : Int) - 1 from by omega)
          have HT0 := Lib.hid ht
          clear ht
          rcases hX : inT l1 t with _ | _ <;> rcases hY : inT l2 t with _ | _
          · rw [hX, hY] at he tu tc tm hxy
            have HEE := Lib.hid he
            have HTU := Lib.hid (show inT ku t = false from tu)
            have HTC := Lib.hid (show inT kc t = false from tc)
            have HTM := Lib.hid (show inT km t = false from tm)
            have HX' := Lib.hid hX
            have HY' := Lib.hid hY
            clear he tu tc tm hX hY
            first
              | (obtain ⟨hx1, hx2⟩ := hxy (Or.inl rfl))
              | (obtain ⟨hx1, hx2⟩ := hxy (Or.inr rfl))
              | skip
            clear hxy
            generalize eqTo l1 l2 k = sm at *
            cases sm
            all_goals
              go_wp2_with fail
              refine (contains_val rfl (by omega) hr1 t (by omega) (by omega) false HX'.out).mono ?_
              rintro e ws ⟨rfl, gs⟩
              replace hr2 := hr2.hold gs
              replace ru := ru.hold gs
              replace rc := rc.hold gs
              replace rm := rm.hold gs
              replace hG := hG.trans gs
              clear gs
              go_wp2_with fail
              refine (contains_val rfl (by omega) hr2 t (by omega) (by omega) false HY'.out).mono ?_
              rintro e ws ⟨rfl, gs⟩
              replace ru := ru.hold gs
              replace rc := rc.hold gs
              replace rm := rm.hold gs
              replace hG := hG.trans gs
              clear gs
              go_wp2_with fail
              refine (contains_val rfl (by omega) ru t (by omega) (by omega) false HTU.out).mono ?_
              rintro e ws ⟨rfl, gs⟩
              replace rc := rc.hold gs
              replace rm := rm.hold gs
              replace hG := hG.trans gs
              clear gs
              go_wp2_with fail
              refine (contains_val rfl (by omega) rc t (by omega) (by omega) false HTC.out).mono ?_
              rintro e ws ⟨rfl, gs⟩
              replace rm := rm.hold gs
              replace hG := hG.trans gs
              clear gs
              go_wp2_with fail
              refine (contains_val rfl (by omega) rm t (by omega) (by omega) false HTM.out).mono ?_
              rintro e ws ⟨rfl, gs⟩
              replace hG := hG.trans gs
              clear gs
              go_wp2_with fail
              go_roundg (130 - (k + 1))
              case measure => rw [HGK.out]; omega
              case rel => exact ⟨k + 1, t + 1, by omega, by omega, HT.out, rfl, by rw [HEE.out]; rfl, hG⟩
          · rw [hX, hY] at he tu tc tm hxy
            have HEE := Lib.hid he
            have HTU := Lib.hid (show inT ku t = true from tu)
            have HTC := Lib.hid (show inT kc t = false from tc)
            have HTM := Lib.hid (show inT km t = false from tm)
            have HX' := Lib.hid hX
            have HY' := Lib.hid hY
            clear he tu tc tm hX hY
            first
              | (obtain ⟨hx1, hx2⟩ := hxy (Or.inl rfl))
              | (obtain ⟨hx1, hx2⟩ := hxy (Or.inr rfl))
              | skip
            clear hxy
            generalize eqTo l1 l2 k = sm at *
            cases sm
            all_goals
              go_wp2_with fail
              refine (contains_val rfl (by omega) hr1 t (by omega) (by omega) false HX'.out).mono ?_
              rintro e ws ⟨rfl, gs⟩
              replace hr2 := hr2.hold gs
              replace ru := ru.hold gs
              replace rc := rc.hold gs
              replace rm := rm.hold gs
              replace hG := hG.trans gs
              clear gs
              go_wp2_with fail
              refine (contains_val rfl (by omega) hr2 t (by omega) (by omega) true HY'.out).mono ?_
              rintro e ws ⟨rfl, gs⟩
              replace ru := ru.hold gs
              replace rc := rc.hold gs
              replace rm := rm.hold gs
              replace hG := hG.trans gs
              clear gs
              go_wp2_with fail
              refine (contains_val rfl (by omega) ru t (by omega) (by omega) true HTU.out).mono ?_
              rintro e ws ⟨rfl, gs⟩
              replace rc := rc.hold gs
              replace rm := rm.hold gs
              replace hG := hG.trans gs
              clear gs
              go_wp2_with fail
              refine (contains_val rfl (by omega) rc t (by omega) (by omega) false HTC.out).mono ?_
              rintro e ws ⟨rfl, gs⟩
              replace rm := rm.hold gs
              replace hG := hG.trans gs
              clear gs
              go_wp2_with fail
              refine (contains_val rfl (by omega) rm t (by omega) (by omega) false HTM.out).mono ?_
              rintro e ws ⟨rfl, gs⟩
              replace hG := hG.trans gs
              clear gs
              go_wp2_with fail
              go_roundg (130 - (k + 1))
              case measure => rw [HGK.out]; omega
              case rel => exact ⟨k + 1, t + 1, by omega, by omega, HT.out, rfl, by rw [HEE.out]; rfl, hG⟩
          · rw [hX, hY] at he tu tc tm hxy
            have HEE := Lib.hid he
            have HTU := Lib.hid (show inT ku t = true from tu)
            have HTC := Lib.hid (show inT kc t = false from tc)
            have HTM := Lib.hid (show inT km t = true from tm)
            have HX' := Lib.hid hX
            have HY' := Lib.hid hY
            clear he tu tc tm hX hY
            first
              | (obtain ⟨hx1, hx2⟩ := hxy (Or.inl rfl))
              | (obtain ⟨hx1, hx2⟩ := hxy (Or.inr rfl))
              | skip
            clear hxy
            generalize eqTo l1 l2 k = sm at *
            cases sm
            all_goals
              go_wp2_with fail
              refine (contains_val rfl (by omega) hr1 t (by omega) (by omega) true HX'.out).mono ?_
              rintro e ws ⟨rfl, gs⟩
              replace hr2 := hr2.hold gs
              replace ru := ru.hold gs
              replace rc := rc.hold gs
              replace rm := rm.hold gs
              replace hG := hG.trans gs
              clear gs
              go_wp2_with fail
              refine (contains_val rfl (by omega) hr2 t (by omega) (by omega) false HY'.out).mono ?_
              rintro e ws ⟨rfl, gs⟩
              replace ru := ru.hold gs
              replace rc := rc.hold gs
              replace rm := rm.hold gs
              replace hG := hG.trans gs
              clear gs
              go_wp2_with fail
              refine (contains_val rfl (by omega) ru t (by omega) (by omega) true HTU.out).mono ?_
              rintro e ws ⟨rfl, gs⟩
              replace rc := rc.hold gs
              replace rm := rm.hold gs
              replace hG := hG.trans gs
              clear gs
              go_wp2_with fail
              refine (contains_val rfl (by omega) rc t (by omega) (by omega) false HTC.out).mono ?_
              rintro e ws ⟨rfl, gs⟩
              replace rm := rm.hold gs
              replace hG := hG.trans gs
              clear gs
              go_wp2_with fail
              refine (contains_val rfl (by omega) rm t (by omega) (by omega) true HTM.out).mono ?_
              rintro e ws ⟨rfl, gs⟩
              replace hG := hG.trans gs
              clear gs
              go_wp2_with fail
              go_roundg (130 - (k + 1))
              case measure => rw [HGK.out]; omega
              case rel => exact ⟨k + 1, t + 1, by omega, by omega, HT.out, rfl, by rw [HEE.out]; rfl, hG⟩
          · rw [hX, hY] at he tu tc tm hxy
            have HEE := Lib.hid he
            have HTU := Lib.hid (show inT ku t = true from tu)
            have HTC := Lib.hid (show inT kc t = true from tc)
            have HTM := Lib.hid (show inT km t = false from tm)
            have HX' := Lib.hid hX
            have HY' := Lib.hid hY
            clear he tu tc tm hX hY
            first
              | (obtain ⟨hx1, hx2⟩ := hxy (Or.inl rfl))
              | (obtain ⟨hx1, hx2⟩ := hxy (Or.inr rfl))
              | skip
            clear hxy
            generalize eqTo l1 l2 k = sm at *
            cases sm
            all_goals
              go_wp2_with fail
              refine (contains_val rfl (by omega) hr1 t (by omega) (by omega) true HX'.out).mono ?_
              rintro e ws ⟨rfl, gs⟩
              replace hr2 := hr2.hold gs
              replace ru := ru.hold gs
              replace rc := rc.hold gs
              replace rm := rm.hold gs
              replace hG := hG.trans gs
              clear gs
              go_wp2_with fail
              refine (contains_val rfl (by omega) hr2 t (by omega) (by omega) true HY'.out).mono ?_
              rintro e ws ⟨rfl, gs⟩
              replace ru := ru.hold gs
              replace rc := rc.hold gs
              replace rm := rm.hold gs
              replace hG := hG.trans gs
              clear gs
              go_wp2_with fail
              refine (contains_val rfl (by omega) ru t (by omega) (by omega) true HTU.out).mono ?_
              rintro e ws ⟨rfl, gs⟩
              replace rc := rc.hold gs
              replace rm := rm.hold gs
              replace hG := hG.trans gs
              clear gs
              go_wp2_with fail
              refine (contains_val rfl (by omega) rc t (by omega) (by omega) true HTC.out).mono ?_
              rintro e ws ⟨rfl, gs⟩
              replace rm := rm.hold gs
              replace hG := hG.trans gs
              clear gs
              go_wp2_with fail
              refine (contains_val rfl (by omega) rm t (by omega) (by omega) false HTM.out).mono ?_
              rintro e ws ⟨rfl, gs⟩
              replace hG := hG.trans gs
              clear gs
              go_wp2_with fail
              go_roundg (130 - (k + 1))
              case measure => rw [HGK.out]; omega
              case rel => exact ⟨k + 1, t + 1, by omega, by omega, HT.out, rfl, by rw [HEE.out]; rfl, hG⟩
        · obtain rfl : k = 130 := by omega
          have ht3 : 128 < t := by omega
          clear ht hlt
          replace hG := hGB
          have hE := HE.out
          rcases hE2 : eqTo l1 l2 130 with _ | _
          all_goals
            rw [hE2] at hE
            have HEQ := Lib.hid hE.symm
            clear hE hE2
            go_wp2_with fail
            refine (normal_val _ _ _ _ _ rfl (by omega) hr1 kx HX.out).mono ?_
            rintro e ws ⟨Ax, cx, rfl, rx, gs⟩
            replace hr2 := hr2.hold gs
            replace hG := hG.trans gs
            clear gs
            go_wp2_with fail
            refine (normal_val _ _ _ _ _ rfl (by omega) hr2 ky HY.out).mono ?_
            rintro e ws ⟨Ay, cy, rfl, ry, gs⟩
            replace rx := rx.hold gs
            replace hG := hG.trans gs
            clear gs
            go_wp2_with fail
            refine (same_val _ _ _ _ _ _ _ _ _ rfl rfl (by omega) (by omega) rx ry _ HEQ.out).mono ?_
            rintro e ws ⟨rfl, gs⟩
            replace hG := hG.trans gs
            clear gs
            go_wp2_with fail
            go_ret
            exact ⟨rfl, hG⟩
    · go_enter Try.func9, Try.ntmps9
      go_wp2_with fail
      refine (awake_any _).mono ?_
      rintro e ws ⟨rfl, gs⟩
      replace hG := hG.trans gs
      clear gs
      go_wp2_with fail
      refine (awake_any _).mono ?_
      rintro e ws ⟨rfl, gs⟩
      replace hG := hG.trans gs
      clear gs
      go_wp2_with fail
      go_ret
      exact ⟨rfl, hG⟩
  · go_enter Try.func9, Try.ntmps9
    go_wp2_with fail
    refine (awake_any _).mono ?_
    rintro e ws ⟨rfl, gs⟩
    replace hG := hG.trans gs
    clear gs
    go_wp2_with fail
    refine (awake_any _).mono ?_
    rintro e ws ⟨rfl, gs⟩
    replace hG := hG.trans gs
    clear gs
    go_wp2_with fail
    go_ret
    exact ⟨rfl, hG⟩
end Go.Proofs.Ytikifikophefdaa
