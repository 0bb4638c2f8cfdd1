/- LabelStrict returns true for any string and every number of tracks, and nothing that was there is changed. No condition. -/
import Derived.Test.YtkiciojipiakoaaLabN
import Derived.Test.YtkiciojipiakoaaLabJ
import Derived.Test.YtkiciojipiakoaaPush
import Derived.Test.YtkiciojipiakoaaLabR
import Derived.Test.YtkiciojipiakoaaLabM
namespace Go.Proofs.Ytkiciojipiakoaa
set_option linter.unusedVariables false
set_option linter.unusedSimpArgs false
set_option linter.unusedSectionVars false
open Go.RowKit
attribute [local go_sem ↓] Go.wp_at_zero Go.wp_at_succ
def chrC (n : Nat) : Bool := decide (65 ≤ n ∧ n ≤ 90) || decide (48 ≤ n ∧ n ≤ 57)
def NameP (s : ByteArray) : Prop := 1 ≤ s.size ∧ s.size ≤ 8 ∧ (∀ j (hj : j < s.size), chrC s[j].toNat = true) ∧ ∀ _h : 0 < s.size, 65 ≤ s[0].toNat
instance (s : ByteArray) : Decidable (NameP s) := by unfold NameP; exact inferInstance
def nameOk (s : ByteArray) : Bool := decide (NameP s)
theorem nameOk_no {s : ByteArray} (h : ¬ NameP s) : nameOk s = false := decide_eq_false h
theorem nameOk_yes {s : ByteArray} (h : NameP s) : nameOk s = true := decide_eq_true h
theorem chrC_cases (n : Nat) : (chrC n = true ∧ 65 ≤ n ∧ n ≤ 90) ∨ (chrC n = true ∧ 48 ≤ n ∧ n ≤ 57) ∨ (chrC n = false ∧ n < 48) ∨ (chrC n = false ∧ 57 < n ∧ n < 65) ∨ (chrC n = false ∧ 90 < n) := by
  unfold chrC
  by_cases h1 : 65 ≤ n ∧ n ≤ 90
  · exact .inl ⟨by simp [h1], h1⟩
  · by_cases h2 : 48 ≤ n ∧ n ≤ 57
    · exact .inr (.inl ⟨by simp [h2], h2⟩)
    · have e : (decide (65 ≤ n ∧ n ≤ 90) || decide (48 ≤ n ∧ n ≤ 57)) = false := by rw [decide_eq_false h1, decide_eq_false h2]; rfl
      by_cases h3 : n < 48
      · exact .inr (.inr (.inl ⟨e, h3⟩))
      · by_cases h4 : n < 65
        · exact .inr (.inr (.inr (.inl ⟨e, by omega, h4⟩)))
        · exact .inr (.inr (.inr (.inr ⟨e, by omega⟩)))
set_option maxRecDepth 100000 in
set_option maxHeartbeats 1000000 in
theorem validName_any (s : ByteArray) (w : World) (hs : s.size ≤ 9223372036854775807) :
    Calls Try.prog 26 #[.string s] w fun e w' => e = .returned (.bool (nameOk s)) ∧ w = w' := by
  by_cases h0 : s.size < 1
  · have HE := Lib.hid (nameOk_no (s := s) (fun h => by have := h.1; omega))
    go_enter Try.func26, Try.ntmps26
    go_wp2_with fail
    go_ret
    exact ⟨ret_bool (by rw [HE.out]), rfl⟩
  by_cases h8 : s.size > 8
  · have HE := Lib.hid (nameOk_no (s := s) (fun h => by have := h.2.1; omega))
    go_enter Try.func26, Try.ntmps26
    go_wp2_with fail
    go_ret
    exact ⟨ret_bool (by rw [HE.out]), rfl⟩
  have hs1 : 0 < s.size := by omega
  by_cases hc : s[0].toNat < 65
  · have HE := Lib.hid (nameOk_no (s := s) (fun h => by have := h.2.2.2 hs1; omega))
    go_enter Try.func26, Try.ntmps26
    go_wp2_with fail
    go_ret
    exact ⟨ret_bool (by rw [HE.out]), rfl⟩
  go_enter Try.func26, Try.ntmps26
  go_wp2_with fail
  have HC := Lib.hid hc
  clear hc
  go_loopg [20] s.size (fun gk i wr => w = wr ∧ ∃ k : Nat, k ≤ s.size ∧ gk = s.size - k ∧ i = .int .i64 k ∧ ∀ j (hj : j < s.size), j < k → chrC s[j].toNat = true)
  case atStart => exact ⟨rfl, 0, by omega, by omega, rfl, fun j hj h => by omega⟩
  case round =>
    obtain ⟨rfl, k, hk, hgk, rfl, hall⟩ := hrel
    have HGK := Lib.hid hgk
    have HA := Lib.hid hall
    clear hgk hall
    by_cases hlt : k < s.size
    · have HN := Lib.hid (show chrC s[k].toNat = true → ∀ j (hj : j < s.size), j < k + 1 → chrC s[j].toNat = true from fun hz j hj hjk => by
          by_cases hjk' : j = k
          · subst hjk'; exact hz
          · exact HA.out j hj (by omega))
      have HF := Lib.hid (show chrC s[k].toNat = false → nameOk s = false from fun hz => nameOk_no (fun h => by have := h.2.2.1 k hlt; rw [hz] at this; cases this))
      rcases chrC_cases s[k].toNat with ⟨hz, a1, a2⟩ | ⟨hz, a1, a2⟩ | ⟨hz, a1⟩ | ⟨hz, a1, a2⟩ | ⟨hz, a1⟩
      · replace HN := Lib.hid (HN.out hz)
        clear hz HF
        go_wp2_with fail
        go_roundg (s.size - (k + 1))
        case measure => rw [HGK.out]; omega
        case rel => exact ⟨rfl, k + 1, by omega, by omega, by go_num, HN.out⟩
      · replace HN := Lib.hid (HN.out hz)
        clear hz HF
        go_wp2_with fail
        go_roundg (s.size - (k + 1))
        case measure => rw [HGK.out]; omega
        case rel => exact ⟨rfl, k + 1, by omega, by omega, by go_num, HN.out⟩
      · replace HF := Lib.hid (HF.out hz)
        clear hz HN
        go_wp2_with fail
        go_ret
        exact ⟨ret_bool (by rw [HF.out]), rfl⟩
      · replace HF := Lib.hid (HF.out hz)
        clear hz HN
        go_wp2_with fail
        go_ret
        exact ⟨ret_bool (by rw [HF.out]), rfl⟩
      · replace HF := Lib.hid (HF.out hz)
        clear hz HN
        go_wp2_with fail
        go_ret
        exact ⟨ret_bool (by rw [HF.out]), rfl⟩
    · have HE := Lib.hid (show nameOk s = true from nameOk_yes ⟨by omega, by omega, fun j hj => HA.out j hj (by omega), fun _ => by have := HC.out; omega⟩)
      go_wp2_with fail
      go_ret
      exact ⟨ret_bool (by rw [HE.out]), rfl⟩
set_option maxRecDepth 100000 in
set_option maxHeartbeats 1000000 in
theorem rvalidName_any (s : ByteArray) (w : World) (hs : s.size ≤ 9223372036854775807) :
    Calls Try.prog 27 #[.string s] w fun e w' => e = .returned (.bool (nameOk s)) ∧ w = w' := by
  go_enter Try.func27, Try.ntmps27
  go_wp2_with fail
  go_loopg [3] s.size (fun gk i wr => w = wr ∧ ∃ k : Nat, k ≤ s.size ∧ gk = s.size - k ∧ i = .int .i64 k ∧ ∀ j (hj : j < s.size), j < k → chrC s[j].toNat = true ∧ (j = 0 → 65 ≤ s[j].toNat))
  case atStart => exact ⟨rfl, 0, by omega, by omega, rfl, fun j hj h => by omega⟩
  case round =>
    obtain ⟨rfl, k, hk, hgk, rfl, hall⟩ := hrel
    have HGK := Lib.hid hgk
    have HA := Lib.hid hall
    clear hgk hall
    by_cases hlt : k < s.size
    · have HN := Lib.hid (show chrC s[k].toNat = true → (k = 0 → 65 ≤ s[k].toNat) → ∀ j (hj : j < s.size), j < k + 1 → chrC s[j].toNat = true ∧ (j = 0 → 65 ≤ s[j].toNat) from fun hz h0 j hj hjk => by
          by_cases hjk' : j = k
          · subst hjk'; exact ⟨hz, h0⟩
          · exact HA.out j hj (by omega))
      have HF := Lib.hid (show chrC s[k].toNat = false → nameOk s = false from fun hz => nameOk_no (fun h => by have := h.2.2.1 k hlt; rw [hz] at this; cases this))
      have HF0 := Lib.hid (show k = 0 → s[k].toNat < 65 → nameOk s = false from fun hz hc => nameOk_no (fun h => by subst hz; have := h.2.2.2 hlt; omega))
      rcases chrC_cases s[k].toNat with ⟨hz, a1, a2⟩ | ⟨hz, a1, a2⟩ | ⟨hz, a1⟩ | ⟨hz, a1, a2⟩ | ⟨hz, a1⟩
      · replace HN := Lib.hid (HN.out hz (fun _ => a1))
        clear hz HF HF0
        go_wp2_with fail
        go_roundg (s.size - (k + 1))
        case measure => rw [HGK.out]; omega
        case rel => exact ⟨rfl, k + 1, by omega, by omega, by go_num, HN.out⟩
      · by_cases hk0 : k = 0
        · replace HF := Lib.hid (HF0.out hk0 (by omega))
          clear hz HN HF0
          subst hk0
          have b1 : decide ((s[0].toNat : Int) ≥ 65) = false := decide_eq_false (by omega)
          go_wp2_with fail
          go_ret
          exact ⟨ret_bool (by rw [HF.out]), rfl⟩
        · replace HN := Lib.hid (HN.out hz (fun h => absurd h hk0))
          clear hz HF HF0
          have hk1 : 0 < k := by omega
          have b1 : decide ((s[k].toNat : Int) ≤ 57) = true := decide_eq_true (by omega)
          go_wp2_with fail
          go_roundg (s.size - (k + 1))
          case measure => rw [HGK.out]; omega
          case rel => exact ⟨rfl, k + 1, by omega, by omega, by go_num, HN.out⟩
      · replace HF := Lib.hid (HF.out hz)
        clear hz HN HF0
        by_cases hk0 : k = 0
        · subst hk0
          go_wp2_with fail
          go_ret
          exact ⟨ret_bool (by rw [HF.out]), rfl⟩
        · have hk1 : 0 < k := by omega
          go_wp2_with fail
          go_ret
          exact ⟨ret_bool (by rw [HF.out]), rfl⟩
      · replace HF := Lib.hid (HF.out hz)
        clear hz HN HF0
        by_cases hk0 : k = 0
        · subst hk0
          have b57 : decide ((s[0].toNat : Int) ≤ 57) = false := decide_eq_false (by omega)
          go_wp2_with fail
          go_ret
          exact ⟨ret_bool (by rw [HF.out]), rfl⟩
        · have hk1 : 0 < k := by omega
          have b57 : decide ((s[k].toNat : Int) ≤ 57) = false := decide_eq_false (by omega)
          go_wp2_with fail
          go_ret
          exact ⟨ret_bool (by rw [HF.out]), rfl⟩
      · replace HF := Lib.hid (HF.out hz)
        clear hz HN HF0
        by_cases hk0 : k = 0
        · subst hk0
          have b57 : decide ((s[0].toNat : Int) ≤ 57) = false := decide_eq_false (by omega)
          have b90 : decide ((s[0].toNat : Int) ≤ 90) = false := decide_eq_false (by omega)
          go_wp2_with fail
          go_ret
          exact ⟨ret_bool (by rw [HF.out]), rfl⟩
        · have hk1 : 0 < k := by omega
          have b57 : decide ((s[k].toNat : Int) ≤ 57) = false := decide_eq_false (by omega)
          have b90 : decide ((s[k].toNat : Int) ≤ 90) = false := decide_eq_false (by omega)
          go_wp2_with fail
          go_ret
          exact ⟨ret_bool (by rw [HF.out]), rfl⟩
    · by_cases h1 : s.size < 1
      · have HE := Lib.hid (nameOk_no (s := s) (fun h => by have := h.1; omega))
        go_wp2_with fail
        go_ret
        exact ⟨ret_bool (by rw [HE.out]), rfl⟩
      · by_cases h8 : s.size > 8
        · have HE := Lib.hid (nameOk_no (s := s) (fun h => by have := h.2.1; omega))
          go_wp2_with fail
          go_ret
          exact ⟨ret_bool (by rw [HE.out]; exact decide_eq_false (by omega)), rfl⟩
        · have HE := Lib.hid (show nameOk s = true from nameOk_yes ⟨by omega, by omega, fun j hj => (HA.out j hj (by omega)).1, fun h => (HA.out 0 h (by omega)).2 rfl⟩)
          go_wp2_with fail
          go_ret
          exact ⟨ret_bool (by rw [HE.out]; exact decide_eq_true (by omega)), rfl⟩
end Go.Proofs.Ytkiciojipiakoaa
namespace Go.Proofs.Ytkiciojipiakoaa
open Go.RowKit
attribute [local go_sem ↓] Go.wp_at_zero Go.wp_at_succ
def headS (s : ByteArray) (t : Int) : ByteArray := if nameOk s = true ∧ okT t = true then padS 1024 (eB s.size ++ s ++ eB t.toNat) else ⟨#[]⟩
set_option maxRecDepth 100000 in
set_option maxHeartbeats 2000000 in
theorem encHead_any (s : ByteArray) (t : Int) (w : World) (hs : s.size ≤ 9223372036854775807) :
    Calls Try.prog 28 #[.string s, .int .i64 t] w fun e w' => e = .returned (.string (headS s t)) ∧ Grew w w' := by
  cases hn : nameOk s with
  | false =>
    have HE := Lib.hid (show headS s t = ⟨#[]⟩ from by unfold headS; rw [if_neg (by rw [hn]; simp)])
    have HN := Lib.hid hn
    clear hn
    go_enter Try.func28, Try.ntmps28
    go_wp2_with fail
    refine (validName_any s _ hs).mono ?_
    rintro e w1 ⟨rfl, rfl⟩
    rw [HN.out]
    go_wp2_with fail
    go_ret
    exact ⟨ret_str (by rw [HE.out]), by (repeat' first | (with_reducible exact Grew.refl _) | (with_reducible assumption) | (with_reducible refine Grew.alloc ?_ _) | (with_reducible refine Grew.drew ?_) | (with_reducible refine Grew.drewN ?_ _) | (with_reducible refine Grew.setRow ?_ (by first | (simp; done) | (simp; omega) | omega) _) | (with_reducible refine Grew.setCell ?_ (by first | (simp; done) | (simp; omega) | omega) _) | ((with_reducible apply Grew.trans); rotate_left; (with_reducible assumption)) | ((with_reducible apply Grew.turn); rotate_left; (with_reducible assumption); (focus (intro i hi; first | omega | (simp at hi; omega)))) | fail)⟩
  | true =>
    have hp : NameP s := of_decide_eq_true hn
    have hs8 : s.size ≤ 8 := hp.2.1
    clear hp
    have HN := Lib.hid hn
    cases ho : okT t with
    | false =>
      have HE := Lib.hid (show headS s t = ⟨#[]⟩ from by unfold headS; rw [if_neg (by rw [ho]; simp)])
      have HO := Lib.hid ho
      clear ho hn
      go_enter Try.func28, Try.ntmps28
      go_wp2_with fail
      refine (validName_any s _ hs).mono ?_
      rintro e w1 ⟨rfl, rfl⟩
      rw [HN.out]
      go_wp2_with fail
      refine (tracksOK_any _ _).mono ?_
      rintro e w1 ⟨rfl, rfl⟩
      rw [HO.out]
      go_wp2_with fail
      go_ret
      exact ⟨ret_str (by rw [HE.out]), by (repeat' first | (with_reducible exact Grew.refl _) | (with_reducible assumption) | (with_reducible refine Grew.alloc ?_ _) | (with_reducible refine Grew.drew ?_) | (with_reducible refine Grew.drewN ?_ _) | (with_reducible refine Grew.setRow ?_ (by first | (simp; done) | (simp; omega) | omega) _) | (with_reducible refine Grew.setCell ?_ (by first | (simp; done) | (simp; omega) | omega) _) | ((with_reducible apply Grew.trans); rotate_left; (with_reducible assumption)) | ((with_reducible apply Grew.turn); rotate_left; (with_reducible assumption); (focus (intro i hi; first | omega | (simp at hi; omega)))) | fail)⟩
    | true =>
      have hb := okT_true ho
      obtain ⟨n, rfl⟩ : ∃ n : Nat, t = (n : Int) := ⟨t.toNat, by omega⟩
      have HE := Lib.hid (show headS s (n : Int) = padS 1024 (eB s.size ++ s ++ eB n) from by unfold headS; rw [if_pos ⟨hn, ho⟩]; rfl)
      have HO := Lib.hid ho
      clear ho hn
      have hn1 : n ≤ 128 := by omega
      clear hb
      have z1 := eB_size s.size
      have z2 := eB_size n
      go_enter Try.func28, Try.ntmps28
      go_wp2_with fail
      refine (validName_any s _ hs).mono ?_
      rintro e w1 ⟨rfl, rfl⟩
      rw [HN.out]
      go_wp2_with fail
      refine (tracksOK_any _ _).mono ?_
      rintro e w1 ⟨rfl, rfl⟩
      rw [HO.out]
      go_wp2_with fail
      refine (appendText_any ⟨#[]⟩ s _ (by decide) (by omega)).mono ?_
      rintro e ws ⟨rfl, g1⟩
      obtain ⟨S1, hS1⟩ : ∃ S1 : ByteArray, S1 = ⟨#[]⟩ ++ ⟨(enc s.size).toArray⟩ ++ s := ⟨_, rfl⟩
      rw [← hS1]
      have HS1 := Lib.hid (show S1 = eB s.size ++ s from hS1.trans (by rw [empty_bytes]; rfl))
      have zS1 : S1.size ≤ 18 := by rw [HS1.out]; (try simp only [ByteArray.size_append]); omega
      clear hS1
      go_wp2_with fail
      refine (appendNumber_any S1 n _ (by omega) (by omega)).mono ?_
      rintro e ws2 ⟨rfl, g2⟩
      obtain ⟨S2, hS2⟩ : ∃ S2 : ByteArray, S2 = S1 ++ ⟨(enc n).toArray⟩ := ⟨_, rfl⟩
      rw [← hS2]
      have HS2 := Lib.hid (show S2 = S1 ++ eB n from hS2.trans rfl)
      have zS2 : S2.size ≤ 28 := by rw [HS2.out]; (try simp only [ByteArray.size_append]); omega
      clear hS2
      go_wp2_with fail
      refine (fill_any S2 _ (by omega)).mono ?_
      rintro e ws3 ⟨rfl, g3⟩
      go_wp2_with fail
      go_ret
      exact ⟨ret_str (by rw [HE.out, HS2.out, HS1.out]), (g1.trans g2).trans g3⟩
set_option maxRecDepth 100000 in
set_option maxHeartbeats 2000000 in
theorem rencHead_any (s : ByteArray) (t : Int) (w : World) (hs : s.size ≤ 9223372036854775807) :
    Calls Try.prog 29 #[.string s, .int .i64 t] w fun e w' => e = .returned (.string (headS s t)) ∧ Grew w w' := by
  cases hn : nameOk s with
  | false =>
    have HE := Lib.hid (show headS s t = ⟨#[]⟩ from by unfold headS; rw [if_neg (by rw [hn]; simp)])
    have HN := Lib.hid hn
    clear hn
    go_enter Try.func29, Try.ntmps29
    go_wp2_with fail
    refine (rvalidName_any s _ hs).mono ?_
    rintro e w1 ⟨rfl, rfl⟩
    rw [HN.out]
    go_wp2_with fail
    go_ret
    exact ⟨ret_str (by rw [HE.out]), by (repeat' first | (with_reducible exact Grew.refl _) | (with_reducible assumption) | (with_reducible refine Grew.alloc ?_ _) | (with_reducible refine Grew.drew ?_) | (with_reducible refine Grew.drewN ?_ _) | (with_reducible refine Grew.setRow ?_ (by first | (simp; done) | (simp; omega) | omega) _) | (with_reducible refine Grew.setCell ?_ (by first | (simp; done) | (simp; omega) | omega) _) | ((with_reducible apply Grew.trans); rotate_left; (with_reducible assumption)) | ((with_reducible apply Grew.turn); rotate_left; (with_reducible assumption); (focus (intro i hi; first | omega | (simp at hi; omega)))) | fail)⟩
  | true =>
    have hp : NameP s := of_decide_eq_true hn
    have hs8 : s.size ≤ 8 := hp.2.1
    clear hp
    have HN := Lib.hid hn
    cases ho : okT t with
    | false =>
      have HE := Lib.hid (show headS s t = ⟨#[]⟩ from by unfold headS; rw [if_neg (by rw [ho]; simp)])
      have HO := Lib.hid ho
      clear ho hn
      go_enter Try.func29, Try.ntmps29
      go_wp2_with fail
      refine (rvalidName_any s _ hs).mono ?_
      rintro e w1 ⟨rfl, rfl⟩
      rw [HN.out]
      go_wp2_with fail
      refine (rvalid_any _ _).mono ?_
      rintro e w1 ⟨rfl, rfl⟩
      rw [HO.out]
      go_wp2_with fail
      go_ret
      exact ⟨ret_str (by rw [HE.out]), by (repeat' first | (with_reducible exact Grew.refl _) | (with_reducible assumption) | (with_reducible refine Grew.alloc ?_ _) | (with_reducible refine Grew.drew ?_) | (with_reducible refine Grew.drewN ?_ _) | (with_reducible refine Grew.setRow ?_ (by first | (simp; done) | (simp; omega) | omega) _) | (with_reducible refine Grew.setCell ?_ (by first | (simp; done) | (simp; omega) | omega) _) | ((with_reducible apply Grew.trans); rotate_left; (with_reducible assumption)) | ((with_reducible apply Grew.turn); rotate_left; (with_reducible assumption); (focus (intro i hi; first | omega | (simp at hi; omega)))) | fail)⟩
    | true =>
      have hb := okT_true ho
      obtain ⟨n, rfl⟩ : ∃ n : Nat, t = (n : Int) := ⟨t.toNat, by omega⟩
      have HE := Lib.hid (show headS s (n : Int) = padS 1024 (eB s.size ++ s ++ eB n) from by unfold headS; rw [if_pos ⟨hn, ho⟩]; rfl)
      have HO := Lib.hid ho
      clear ho hn
      have hn1 : n ≤ 128 := by omega
      clear hb
      have z1 := eB_size s.size
      have z2 := eB_size n
      go_enter Try.func29, Try.ntmps29
      go_wp2_with fail
      refine (rvalidName_any s _ hs).mono ?_
      rintro e w1 ⟨rfl, rfl⟩
      rw [HN.out]
      go_wp2_with fail
      refine (rvalid_any _ _).mono ?_
      rintro e w1 ⟨rfl, rfl⟩
      rw [HO.out]
      go_wp2_with fail
      refine (refText_any s _ (by omega)).mono ?_
      rintro e ws ⟨rfl, g1⟩
      obtain ⟨S1, hS1⟩ : ∃ S1 : ByteArray, S1 = ⟨(enc s.size).toArray⟩ ++ s := ⟨_, rfl⟩
      rw [← hS1]
      have HS1 := Lib.hid (show S1 = eB s.size ++ s from hS1)
      have zS1 : S1.size ≤ 18 := by rw [HS1.out]; (try simp only [ByteArray.size_append]); omega
      clear hS1
      go_wp2_with fail
      refine (number_enc n _ (by omega)).mono ?_
      rintro e ws2 ⟨rfl, g2⟩
      obtain ⟨S2, hS2⟩ : ∃ S2 : ByteArray, S2 = ⟨(enc n).toArray⟩ := ⟨_, rfl⟩
      rw [← hS2]
      have HS2 := Lib.hid (show S2 = eB n from hS2)
      have zS2 : S2.size ≤ 10 := by rw [HS2.out]; omega
      clear hS2
      go_wp2_with fail
      have zS3 : (S1 ++ S2).size ≤ 28 := by rw [ByteArray.size_append]; omega
      refine (padded_any (S1 ++ S2) 1024 _ (by omega) (by omega)).mono ?_
      rintro e ws3 ⟨rfl, rfl⟩
      go_wp2_with fail
      go_ret
      exact ⟨ret_str (by rw [HE.out, HS2.out, HS1.out]), g1.trans g2⟩
end Go.Proofs.Ytkiciojipiakoaa
namespace Go.Proofs.Ytkiciojipiakoaa
open Go.RowKit
attribute [local go_sem ↓] Go.wp_at_zero Go.wp_at_succ
def hdN (s : ByteArray) := RTxt s 0 8
def hdT (s : ByteArray) := RCnt (hdN s).2.1 (hdN s).2.2 128
def hdE (s : ByteArray) := headS (hdN s).1 ((hdT s).1 : Int)
def headP (s : ByteArray) : ByteArray × Int × Int := if hdE s = ⟨#[]⟩ ∨ hdE s ≠ s then (⟨#[]⟩, 0, 11) else ((hdN s).1, ((hdT s).1 : Int), 0)
def rheadP (s : ByteArray) : ByteArray × Int × Int := if (hdT s).2.2 ≠ 0 ∨ s.size ≠ 1024 ∨ hdE s ≠ s then (⟨#[]⟩, 0, 11) else ((hdN s).1, ((hdT s).1 : Int), 0)
theorem RCnt_err (s : ByteArray) (e m : Int) (h : (RCnt s e m).2.2 ≠ 0) : (RCnt s e m).1 = 0 := by
  unfold RCnt at h ⊢
  split
  · rfl
  · split
    · rfl
    · rename_i h1 h2
      rw [if_neg h1, if_neg h2] at h
      exact absurd h h1
theorem headS_facts (s : ByteArray) (t : Int) (h : headS s t ≠ ⟨#[]⟩) : nameOk s = true ∧ okT t = true ∧ (headS s t).size = 1024 := by
  unfold headS at h ⊢
  split at h
  · rename_i hc
    rw [if_pos hc]
    refine ⟨hc.1, hc.2, padS_size _ _ ?_⟩
    have hp : NameP s := of_decide_eq_true hc.1
    have := hp.2.1
    have z1 := eB_size s.size
    have z2 := eB_size t.toNat
    rw [ByteArray.size_append, ByteArray.size_append]
    omega
  · exact absurd rfl h
theorem head_same (s : ByteArray) : rheadP s = headP s := by
  unfold rheadP headP
  by_cases h0 : hdE s = ⟨#[]⟩
  · rw [if_pos (show hdE s = ⟨#[]⟩ ∨ hdE s ≠ s from .inl h0), if_pos]
    by_cases h1 : s.size = 1024
    · refine .inr (.inr fun e => ?_)
      rw [h0] at e
      rw [← e] at h1
      exact absurd h1 (by decide)
    · exact .inr (.inl h1)
  · by_cases h1 : hdE s = s
    · obtain ⟨a1, a2, a3⟩ := headS_facts _ _ h0
      rw [if_neg (show ¬ (hdE s = ⟨#[]⟩ ∨ hdE s ≠ s) from fun h => h.elim h0 (fun h => h h1)), if_neg]
      rintro (h | h | h)
      · have := RCnt_err _ _ _ h
        have := okT_true a2
        have e : (hdT s).1 = 0 := RCnt_err _ _ _ h
        omega
      · exact h (by rw [← h1]; exact a3)
      · exact h h1
    · rw [if_pos (show hdE s = ⟨#[]⟩ ∨ hdE s ≠ s from .inr h1), if_pos (.inr (.inr h1))]
theorem head_strict (s : ByteArray) : headP s = (⟨#[]⟩, 0, 11) ∨ ∃ n t, headP s = (n, t, 0) ∧ headS n t = s ∧ nameOk n = true ∧ okT t = true ∧ n.size ≤ 8 ∧ 0 ≤ t ∧ t ≤ 128 := by
  unfold headP
  split
  · exact .inl rfl
  · rename_i h
    obtain ⟨h0, h1⟩ := not_or.1 h
    have h1 := Decidable.not_not.1 h1
    obtain ⟨a1, a2, a3⟩ := headS_facts _ _ h0
    have hp : NameP (hdN s).1 := of_decide_eq_true a1
    have := okT_true a2
    exact .inr ⟨_, _, rfl, h1, a1, a2, hp.2.1, by omega, by omega⟩
def HdR (w : World) (d : ByteArray × Int × Int) (e : Ending) (w' : World) : Prop := e = .returned (.tuple #[.string d.1, .int .i64 d.2.1, .int .i64 d.2.2]) ∧ Grew w w'
theorem hdErr (w w' : World) (h : Grew w w') : HdR w (⟨#[]⟩, 0, 11) (.returned (.tuple #[.string ⟨#[]⟩, .int .i64 0, .int .i64 11])) w' := ⟨rfl, h⟩
set_option maxRecDepth 100000 in
set_option maxHeartbeats 2000000 in
theorem decHead_any (s : ByteArray) (w : World) (hs : s.size ≤ 9223372036854775807) :
    Calls Try.prog 24 #[.string s] w (HdR w (headP s)) := by
  go_enter Try.func24, Try.ntmps24
  go_wp2_with fail
  refine (newReader_any s _).mono ?_
  rintro e w3 ⟨g, rfl, hgg, hG, hr3⟩
  have HP0 := Lib.hid (show headP s = if hdE s = ⟨#[]⟩ ∨ hdE s ≠ s then (⟨#[]⟩, 0, 11) else ((hdN s).1, ((hdT s).1 : Int), 0) from rfl)
  unfold hdE hdT hdN at HP0
  obtain ⟨⟨n1, s1, e1⟩, hX1⟩ : ∃ X, RTxt s 0 8 = X := ⟨_, rfl⟩
  rw [hX1] at HP0
  have HX1 := Lib.hid hX1
  have zz := RTxt_size s 0 8
  rw [hX1] at zz
  have zs1 : s1.size ≤ 9223372036854775807 := Nat.le_trans zz hs
  have C := rtext_any g s 0 8 w3 hr3 hs (by omega) (by omega)
  rw [hX1] at C
  have bn1 := RTxt_sz s 0 8
  rw [hX1] at bn1
  have bn1 : n1.size ≤ 9223372036854775807 := Nat.le_trans bn1 hs
  clear hX1 zz
  go_wp2_with fail
  refine C.mono ?_
  rintro e w4 ⟨rfl, t1, hr1⟩
  replace hG := hG.turn t1 (fun _ hk => by omega)
  clear C t1 hr3
  try simp only at HP0
  obtain ⟨⟨t2, s2, e2⟩, hX2⟩ : ∃ X, RCnt s1 e1 128 = X := ⟨_, rfl⟩
  rw [hX2] at HP0
  have C := rcount_any g s1 e1 128 w4 hr1 zs1 (by omega) (by omega)
  rw [hX2] at C
  have bt := RCnt_bd s1 e1 128 (by omega)
  rw [hX2] at bt
  have bt : (t2 : Int) ≤ 128 := bt
  clear hX2
  go_wp2_with fail
  refine C.mono ?_
  rintro e w5 ⟨rfl, t5, hr2⟩
  replace hG := hG.turn t5 (fun _ hk => by omega)
  clear C t5 hr1
  try simp only at HP0
  obtain ⟨E, hE⟩ : ∃ E, headS n1 (t2 : Int) = E := ⟨_, rfl⟩
  rw [hE] at HP0
  have C := encHead_any n1 (t2 : Int) w5 bn1
  rw [hE] at C
  clear hE
  by_cases h0 : E = ⟨#[]⟩
  · subst h0
    have HE := Lib.hid (show headP s = (⟨#[]⟩, 0, 11) from by rw [HP0.out, if_pos (.inl rfl)])
    clear HP0
    go_wp2_with fail
    refine C.mono ?_
    rintro e w6 ⟨rfl, g6⟩
    go_wp2_with fail
    refine bodyPost_ret (by first | (simp [*, results, Try.results24, go_sem]; rfl) | simp [*, results, Try.results24, go_sem]) rfl ?_
    rw [HE.out]
    exact hdErr _ _ (hG.trans g6)
  have hne0 := str_ne h0
  have hne1 : (E.toList == []) = false := by have := hne0; simpa using this
  by_cases h1 : E = s
  · have HE := Lib.hid (show headP s = (n1, (t2 : Int), 0) from by rw [HP0.out, if_neg (fun h => h.elim h0 (fun h => h h1))])
    clear HP0 h0
    subst h1
    go_wp2_with fail
    refine C.mono ?_
    rintro e w6 ⟨rfl, g6⟩
    go_wp2_with fail
    refine bodyPost_ret (by first | (simp [*, results, Try.results24, go_sem]; rfl) | simp [*, results, Try.results24, go_sem]) rfl ?_
    rw [HE.out]
    exact ⟨rfl, hG.trans g6⟩
  · have hne2 := str_ne h1
    have hne3 : (E.toList != s.toList) = true := by rw [bne, hne2]; rfl
    have HE := Lib.hid (show headP s = (⟨#[]⟩, 0, 11) from by rw [HP0.out, if_pos (.inr h1)])
    clear HP0 h0 h1
    go_wp2_with fail
    refine C.mono ?_
    rintro e w6 ⟨rfl, g6⟩
    go_wp2_with fail
    refine bodyPost_ret (by first | (simp [*, results, Try.results24, go_sem]; rfl) | simp [*, results, Try.results24, go_sem]) rfl ?_
    rw [HE.out]
    exact hdErr _ _ (hG.trans g6)
set_option maxRecDepth 100000 in
set_option maxHeartbeats 4000000 in
theorem rdecHead_any (s : ByteArray) (w : World) (hs : s.size ≤ 9223372036854775807) :
    Calls Try.prog 25 #[.string s] w (HdR w (rheadP s)) := by
  go_enter Try.func25, Try.ntmps25
  have hb6 : Blk (w.alloc (.cells #[.string s, .int .i64 0] 61)) w.heap.size 61 #[.string s, .int .i64 0] := Blk.new w _ _ rfl
  have hG := (Grew.refl w).alloc (.cells #[.string s, .int .i64 0] 61)
  have HP0 := Lib.hid (show rheadP s = if (hdT s).2.2 ≠ 0 ∨ s.size ≠ 1024 ∨ hdE s ≠ s then (⟨#[]⟩, 0, 11) else ((hdN s).1, ((hdT s).1 : Int), 0) from rfl)
  unfold hdE hdT hdN at HP0
  obtain ⟨⟨n1, s1, e1⟩, hX1⟩ : ∃ X, RTxt s 0 8 = X := ⟨_, rfl⟩
  rw [hX1] at HP0
  have zz := RTxt_size s 0 8
  rw [hX1] at zz
  have zs1 : s1.size ≤ 9223372036854775807 := Nat.le_trans zz hs
  have C := fun w => refReadText_any s 0 8 w hs (by omega) (by omega)
  rw [hX1] at C
  have bn1 := RTxt_sz s 0 8
  rw [hX1] at bn1
  have bn1 : n1.size ≤ 9223372036854775807 := Nat.le_trans bn1 hs
  clear hX1 zz
  go_wp2_with fail
  refine (C _).mono ?_
  rintro e w1 ⟨rfl, gq⟩
  replace hG := hG.trans gq
  replace hb6 := hb6.grew gq
  clear C gq
  have z0 := hb6.cell 0
  have z1 := hb6.cell 1
  have f0 := hb6.frozen 0
  have f1 := hb6.frozen 1
  have hlb := hb6.lt
  have hG' := (hG.setCell (p := ⟨w.heap.size, 0, none⟩) (by show w.heap.size ≤ w.heap.size; omega) (.string s1)).setCell (p := ⟨w.heap.size, 1, none⟩) (by show w.heap.size ≤ w.heap.size; omega) (.int .i64 e1)
  have hb6' := ((hb6.set_ 0 (.string s1)).set_ 1 (.int .i64 e1)).conv (ds := #[.string s1, .int .i64 e1]) rfl
  have hGs := hG'
  have hbs := hb6'
  clear hG' hb6' hG hb6
  have hG := hGs
  have hb6 := hbs
  clear hGs hbs
  try simp only at HP0
  obtain ⟨⟨t2, s2, e2⟩, hX2⟩ : ∃ X, RCnt s1 e1 128 = X := ⟨_, rfl⟩
  rw [hX2] at HP0
  have C := fun w => refReadCount_any s1 e1 128 w zs1 (by omega) (by omega)
  rw [hX2] at C
  have bt := RCnt_bd s1 e1 128 (by omega)
  rw [hX2] at bt
  have bt : (t2 : Int) ≤ 128 := bt
  clear hX2
  go_wp2_with fail
  refine (C _).mono ?_
  rintro e w2 ⟨rfl, gq⟩
  replace hG := hG.trans gq
  replace hb6 := hb6.grew gq
  clear C gq z0 z1 f0 f1 hlb
  have z0 := hb6.cell 0
  have z1 := hb6.cell 1
  have f0 := hb6.frozen 0
  have f1 := hb6.frozen 1
  have hlb := hb6.lt
  have hG' := (hG.setCell (p := ⟨w.heap.size, 0, none⟩) (by show w.heap.size ≤ w.heap.size; omega) (.string s2)).setCell (p := ⟨w.heap.size, 1, none⟩) (by show w.heap.size ≤ w.heap.size; omega) (.int .i64 e2)
  have hb6' := ((hb6.set_ 0 (.string s2)).set_ 1 (.int .i64 e2)).conv (ds := #[.string s2, .int .i64 e2]) rfl
  have hGs := hG'
  have hbs := hb6'
  clear hG' hb6' hG hb6
  have hG := hGs
  have hb6 := hbs
  clear hGs hbs
  try simp only at HP0
  obtain ⟨E, hE⟩ : ∃ E, headS n1 (t2 : Int) = E := ⟨_, rfl⟩
  rw [hE] at HP0
  have C := fun w => rencHead_any n1 (t2 : Int) w bn1
  rw [hE] at C
  clear hE
  have q1 := hb6.cell 1
  have q0 := hb6.cell 0
  have hlq := hb6.lt
  by_cases h0 : e2 = 0
  rotate_left
  · have hne : (e2 != 0) = true := by rw [bne_iff_ne]; exact h0
    have HE := Lib.hid (show rheadP s = (⟨#[]⟩, 0, 11) from by rw [HP0.out, if_pos (.inl h0)])
    clear HP0 h0
    go_wp2_with fail
    refine bodyPost_ret (by first | (simp [*, results, Try.results25, go_sem]; rfl) | simp [*, results, Try.results25, go_sem]) rfl ?_
    rw [HE.out]
    exact hdErr _ _ hG
  subst h0
  by_cases h1 : s.size = 1024
  rotate_left
  · have hne : ((s.size : Int) != 1024) = true := by rw [bne_iff_ne]; omega
    have HE := Lib.hid (show rheadP s = (⟨#[]⟩, 0, 11) from by rw [HP0.out, if_pos (.inr (.inl h1))])
    clear HP0 h1
    go_wp2_with fail
    refine bodyPost_ret (by first | (simp [*, results, Try.results25, go_sem]; rfl) | simp [*, results, Try.results25, go_sem]) rfl ?_
    rw [HE.out]
    exact hdErr _ _ hG
  have hne : ((s.size : Int) != 1024) = false := by rw [bne_eq_false_iff_eq]; omega
  by_cases h2 : E = s
  · have HE := Lib.hid (show rheadP s = (n1, (t2 : Int), 0) from by rw [HP0.out, if_neg (fun h => h.elim (fun h => h rfl) (fun h => h.elim (fun h => h h1) (fun h => h h2)))])
    clear HP0 h1
    subst h2
    go_wp2_with fail
    refine (C _).mono ?_
    rintro e w6 ⟨rfl, g6⟩
    go_wp2_with fail
    refine bodyPost_ret (by first | (simp [*, results, Try.results25, go_sem]; rfl) | simp [*, results, Try.results25, go_sem]) rfl ?_
    rw [HE.out]
    exact ⟨rfl, hG.trans g6⟩
  · have hne2 := str_ne h2
    have hne3 : (E.toList != s.toList) = true := by rw [bne, hne2]; rfl
    have HE := Lib.hid (show rheadP s = (⟨#[]⟩, 0, 11) from by rw [HP0.out, if_pos (.inr (.inr h2))])
    clear HP0 h1 h2
    go_wp2_with fail
    refine (C _).mono ?_
    rintro e w6 ⟨rfl, g6⟩
    go_wp2_with fail
    refine bodyPost_ret (by first | (simp [*, results, Try.results25, go_sem]; rfl) | simp [*, results, Try.results25, go_sem]) rfl ?_
    rw [HE.out]
    exact hdErr _ _ (hG.trans g6)
end Go.Proofs.Ytkiciojipiakoaa
namespace Go.Proofs.Ytkiciojipiakoaa
open Go.RowKit
theorem decP_len2 (s : ByteArray) (t : Int) : (decP s t).1.ext.length ≤ 1000 := by
  unfold decP
  split
  · exact Nat.zero_le _
  · split
    · exact Nat.zero_le _
    · split
      · rename_i h
        obtain ⟨_, _, ⟨_, v8⟩, _⟩ := valid_facts _ t h.1
        show (rL 128 s).ext.length ≤ 1000
        omega
      · exact Nat.zero_le _
theorem decP_two (s : ByteArray) (t : Int) : (∃ l, decP s t = (l, 0) ∧ encS l t = s ∧ l.ext.length ≤ 1000) ∨ decP s t = (labZ, 11) := by
  rcases dec_strict_lab s t with ⟨h1, h2⟩ | h
  · exact .inl ⟨(decP s t).1, Prod.ext rfl h1, h2, decP_len2 s t⟩
  · exact .inr h
set_option maxRecDepth 100000 in
set_option maxHeartbeats 4000000 in
theorem labelStrict_any (s : ByteArray) (hs : s.size ≤ 9223372036854775807) (t : Int) (t0 : -9223372036854775808 ≤ t) (t1 : t ≤ 9223372036854775807) (w : World) :
    Calls Try.prog 9 #[.string s, .int .i64 t] w fun e w' => e = .returned (.bool true) ∧ Grew w w' := by
  by_cases hz : s.size ≤ 1100
  rotate_left
  · have hzi : ((s.size : Int) > 1100) := by omega
    go_enter Try.func9, Try.ntmps9
    go_wp2_with fail
    refine (awake_any _).mono ?_
    rintro e w1 ⟨rfl, g1⟩
    go_wp2_with fail
    refine (awake_any _).mono ?_
    rintro e w2 ⟨rfl, g2⟩
    go_wp2_with fail
    go_ret
    exact ⟨rfl, g1.trans g2⟩
  have hzi : ¬ ((s.size : Int) > 1100) := by omega
  have hHD := head_strict s
  have C3 := fun w => decHead_any s w hs
  rcases decP_two s t with ⟨l, hD, hE, hlen⟩ | hD
  · have HCD := Lib.hid (show ∀ w', Calls Try.prog 22 #[.string s, .int .i64 t] w' fun e w'' => ∃ A2 c2, e = .returned (.tuple #[.agg #[.int .i64 l.id, .int .i64 l.unit, .string l.name, .string l.note, .slice A2 l.ext.length c2], .int .i64 0]) ∧ LabAt w'' A2 c2 l ∧ Grew w' w'' from fun w' => by
      have := decode_lab s t w' (by omega) t0 t1
      rw [hD] at this
      exact this)
    have HQQ := Lib.hid (show ∀ w' A2 c2, LabAt w' A2 c2 l → Calls Try.prog 16 #[.agg #[.int .i64 l.id, .int .i64 l.unit, .string l.name, .string l.note, .slice A2 l.ext.length c2], .int .i64 t] w' fun e w'' => e = .returned (.string s) ∧ Grew w' w'' from fun w' A2 c2 h2 => by
      have := encode_lab A2 c2 l t w' h2 (by omega) t0 t1
      rw [hE] at this
      exact this)
    clear hD hE hlen
    rcases hHD with hH | ⟨hn1, ht1, hH, b1, b2, b3, b4, b5, b6⟩
    · rw [hH] at C3
      go_enter Try.func9, Try.ntmps9
      go_wp2_with fail
      refine (awake_any _).mono ?_
      rintro e w1 ⟨rfl, g1⟩
      go_wp2_with fail
      refine (HCD.out _).mono ?_
      rintro e w2 ⟨A2, c2, rfl, hk2, g2⟩
      have HB2 := Lib.hid (Blk.new w2 24 #[.int .i64 l.id, .int .i64 l.unit, .string l.name, .string l.note, .slice A2 l.ext.length c2] rfl)
      have gm2 := (Grew.refl w2).alloc (.cells #[.int .i64 l.id, .int .i64 l.unit, .string l.name, .string l.note, .slice A2 l.ext.length c2] 24)
      have hk2' := hk2.hold gm2
      have hG := (g1.trans g2).trans gm2
      have hlbx := (HB2.out).lt
      have x0 := (HB2.out).cell 0
      have x1 := (HB2.out).cell 1
      have x2 := (HB2.out).cell 2
      have x3 := (HB2.out).cell 3
      have x4 := (HB2.out).cell 4
      go_wp2_with fail
      refine (HQQ.out _ A2 c2 hk2').mono ?_
      rintro e w3 ⟨rfl, g3⟩
      replace hG := hG.trans g3
      clear hlbx x0 x1 x2 x3 x4
      go_wp2_with fail
      refine (C3 _).mono ?_
      rintro e w5 ⟨rfl, g5⟩
      replace hG := hG.trans g5
      go_wp2_with fail
      go_ret
      exact ⟨rfl, hG⟩
    · rw [hH] at C3
      have C4 := fun w => encHead_any hn1 ht1 w (by omega)
      rw [b1] at C4
      have C5 := fun w => validName_any hn1 w (by omega)
      rw [b2] at C5
      have C6 := fun w => table_any ht1 w
      have hpos : 0 < ttS ht1 := by unfold ttS; rw [if_pos b3]; have := okT_true b3; omega
      clear b1 b2 b3 hH
      go_enter Try.func9, Try.ntmps9
      go_wp2_with fail
      refine (awake_any _).mono ?_
      rintro e w1 ⟨rfl, g1⟩
      go_wp2_with fail
      refine (HCD.out _).mono ?_
      rintro e w2 ⟨A2, c2, rfl, hk2, g2⟩
      have HB2 := Lib.hid (Blk.new w2 24 #[.int .i64 l.id, .int .i64 l.unit, .string l.name, .string l.note, .slice A2 l.ext.length c2] rfl)
      have gm2 := (Grew.refl w2).alloc (.cells #[.int .i64 l.id, .int .i64 l.unit, .string l.name, .string l.note, .slice A2 l.ext.length c2] 24)
      have hk2' := hk2.hold gm2
      have hG := (g1.trans g2).trans gm2
      have hlbx := (HB2.out).lt
      have x0 := (HB2.out).cell 0
      have x1 := (HB2.out).cell 1
      have x2 := (HB2.out).cell 2
      have x3 := (HB2.out).cell 3
      have x4 := (HB2.out).cell 4
      go_wp2_with fail
      refine (HQQ.out _ A2 c2 hk2').mono ?_
      rintro e w3 ⟨rfl, g3⟩
      replace hG := hG.trans g3
      clear hlbx x0 x1 x2 x3 x4
      go_wp2_with fail
      refine (C3 _).mono ?_
      rintro e w5 ⟨rfl, g5⟩
      replace hG := hG.trans g5
      go_wp2_with fail
      refine (C4 _).mono ?_
      rintro e w6 ⟨rfl, g6⟩
      replace hG := hG.trans g6
      go_wp2_with fail
      refine (C5 _).mono ?_
      rintro e w7 ⟨rfl, rfl⟩
      go_wp2_with fail
      refine (C6 _).mono ?_
      rintro e w7 ⟨rfl, rfl⟩
      go_wp2_with fail
      go_ret
      exact ⟨rfl, hG⟩
  · obtain ⟨l, hl⟩ : ∃ l, labZ = l := ⟨_, rfl⟩
    rw [hl] at hD
    have HCD := Lib.hid (show ∀ w', Calls Try.prog 22 #[.string s, .int .i64 t] w' fun e w'' => ∃ A2 c2, e = .returned (.tuple #[.agg #[.int .i64 l.id, .int .i64 l.unit, .string l.name, .string l.note, .slice A2 l.ext.length c2], .int .i64 11]) ∧ LabAt w'' A2 c2 l ∧ Grew w' w'' from fun w' => by
      have := decode_lab s t w' (by omega) t0 t1
      rw [hD] at this
      exact this)
    have HQQ := Lib.hid (show ∀ w' A2 c2, LabAt w' A2 c2 l → Calls Try.prog 14 #[.agg #[.int .i64 l.id, .int .i64 l.unit, .string l.name, .string l.note, .slice A2 l.ext.length c2], .agg #[.int .i64 0, .int .i64 0, .string ⟨#[]⟩, .string ⟨#[]⟩, .slice none 0 0]] w' fun e w'' => e = .returned (.bool true) ∧ Grew w' w'' from fun w' A2 c2 h2 => by
      subst hl
      have := lequal_any A2 none c2 0 labZ labZ w' h2 (LabAt.zero w') (by decide) (by decide)
      rw [eqL_self] at this
      exact this)
    clear hD hl
    rcases hHD with hH | ⟨hn1, ht1, hH, b1, b2, b3, b4, b5, b6⟩
    · rw [hH] at C3
      go_enter Try.func9, Try.ntmps9
      go_wp2_with fail
      refine (awake_any _).mono ?_
      rintro e w1 ⟨rfl, g1⟩
      go_wp2_with fail
      refine (HCD.out _).mono ?_
      rintro e w2 ⟨A2, c2, rfl, hk2, g2⟩
      have HB2 := Lib.hid (Blk.new w2 24 #[.int .i64 l.id, .int .i64 l.unit, .string l.name, .string l.note, .slice A2 l.ext.length c2] rfl)
      have gm2 := (Grew.refl w2).alloc (.cells #[.int .i64 l.id, .int .i64 l.unit, .string l.name, .string l.note, .slice A2 l.ext.length c2] 24)
      have hk2' := hk2.hold gm2
      have hG := (g1.trans g2).trans gm2
      have hlbx := (HB2.out).lt
      have x0 := (HB2.out).cell 0
      have x1 := (HB2.out).cell 1
      have x2 := (HB2.out).cell 2
      have x3 := (HB2.out).cell 3
      have x4 := (HB2.out).cell 4
      go_wp2_with fail
      refine (HQQ.out _ A2 c2 hk2').mono ?_
      rintro e w3 ⟨rfl, g3⟩
      replace hG := hG.trans g3
      clear hlbx x0 x1 x2 x3 x4
      go_wp2_with fail
      refine (C3 _).mono ?_
      rintro e w5 ⟨rfl, g5⟩
      replace hG := hG.trans g5
      go_wp2_with fail
      go_ret
      exact ⟨rfl, hG⟩
    · rw [hH] at C3
      have C4 := fun w => encHead_any hn1 ht1 w (by omega)
      rw [b1] at C4
      have C5 := fun w => validName_any hn1 w (by omega)
      rw [b2] at C5
      have C6 := fun w => table_any ht1 w
      have hpos : 0 < ttS ht1 := by unfold ttS; rw [if_pos b3]; have := okT_true b3; omega
      clear b1 b2 b3 hH
      go_enter Try.func9, Try.ntmps9
      go_wp2_with fail
      refine (awake_any _).mono ?_
      rintro e w1 ⟨rfl, g1⟩
      go_wp2_with fail
      refine (HCD.out _).mono ?_
      rintro e w2 ⟨A2, c2, rfl, hk2, g2⟩
      have HB2 := Lib.hid (Blk.new w2 24 #[.int .i64 l.id, .int .i64 l.unit, .string l.name, .string l.note, .slice A2 l.ext.length c2] rfl)
      have gm2 := (Grew.refl w2).alloc (.cells #[.int .i64 l.id, .int .i64 l.unit, .string l.name, .string l.note, .slice A2 l.ext.length c2] 24)
      have hk2' := hk2.hold gm2
      have hG := (g1.trans g2).trans gm2
      have hlbx := (HB2.out).lt
      have x0 := (HB2.out).cell 0
      have x1 := (HB2.out).cell 1
      have x2 := (HB2.out).cell 2
      have x3 := (HB2.out).cell 3
      have x4 := (HB2.out).cell 4
      go_wp2_with fail
      refine (HQQ.out _ A2 c2 hk2').mono ?_
      rintro e w3 ⟨rfl, g3⟩
      replace hG := hG.trans g3
      clear hlbx x0 x1 x2 x3 x4
      go_wp2_with fail
      refine (C3 _).mono ?_
      rintro e w5 ⟨rfl, g5⟩
      replace hG := hG.trans g5
      go_wp2_with fail
      refine (C4 _).mono ?_
      rintro e w6 ⟨rfl, g6⟩
      replace hG := hG.trans g6
      go_wp2_with fail
      refine (C5 _).mono ?_
      rintro e w7 ⟨rfl, rfl⟩
      go_wp2_with fail
      refine (C6 _).mono ?_
      rintro e w7 ⟨rfl, rfl⟩
      go_wp2_with fail
      go_ret
      exact ⟨rfl, hG⟩
end Go.Proofs.Ytkiciojipiakoaa
namespace Go.Proofs.Ytkiciojipiakoaa
open Go.ChangeShapes Go.WideShapes Go.ChangeAt Go.RowKit Go.ChangeMaps
set_option maxRecDepth 100000 in
theorem labelStrict_lifted (os : Os) (started : os.Started) (H : Type) (enc : TypeId × Value → H) :
    ReturnsInHanded {} Try.checked os 9 .any (Rows.labelStrictSpec.pre6 enc Try.prog Try.f9 Rows.labelStrictRow.domain false) (Rows.labelStrictSpec.post enc Try.prog Try.f9 false true false false) := by
  refine returnsInHanded_of_change (C := Try.checked) (by kernel_rfl) started (by kernel_rfl) Try.func9
    (ChangeSpec.witness6 (enc := enc) (C := Try.checked) false ⟨#[], #[.string ⟨#[]⟩, .int .i64 0], []⟩ 8 (by kernel_rfl) (by kernel_rfl) (by kernel_rfl) (by kernel_rfl)) ?_
  intro W base args ds gs before hval0 hW hcnd _
  have hval : ∀ (j : Nat) t v, Try.f9.params[j]? = some t → args[j]? = some v → Value.okWide Try.prog W .any base t v := hval0
  have hW' := hW
  obtain ⟨p, q, hA0, hV, rfl, hfz, hnd⟩ := hW
  have hA : DataW.TrodAll enc Try.prog W 0 (fun _ => true) true Try.f9.params.toList args.toList ds p := hA0
  rw [Try.params9] at hA hval
  obtain ⟨v0, v1, d0, d1, p0, p1, rfl, rfl, rfl, h0, h1⟩ := trodAll_two hA
  obtain ⟨rfl, rfl⟩ := trodVars_none hV
  obtain ⟨a0, rfl, rfl, rfl, wa0⟩ := open_string Try.underlying9 (hval 0 9 v0 rfl rfl) h0
  have s0 : a0.size ≤ 9223372036854775807 := by unfold maxLen at wa0; simpa using wa0
  obtain ⟨b1, rfl, rfl, rfl, wb1⟩ := open_int Try.underlying3 (hval 1 3 v1 rfl rfl) h1
  simp only [Lit.wf, IntKind.min, IntKind.max, IntKind.signed, IntKind.bits] at wb1
  have s1 : -9223372036854775808 ≤ b1 ∧ b1 ≤ 9223372036854775807 := by simp at wb1; omega
  obtain ⟨a1, rfl⟩ : ∃ a, a = b1 := ⟨_, rfl⟩
  clear hA0 hval0
  refine (labelStrict_any a0 s0 a1 s1.1 s1.2 W).mono fun e W' ⟨he, hg⟩ => ?_
  subst he
  exact ⟨_, rfl, law_post (by kernel_rfl) (by kernel_rfl) (by rfl) Try.underlying4 rfl hW' rfl hg⟩
theorem labelStrict_holds : Rows.LabelStrictSaid :=
  OpenClaim.holds_of_wide 9 Try.f9 rfl rfl rfl rfl rfl rfl rfl ⟨rfl, rfl, rfl, rfl, rfl⟩ rfl rfl rfl rfl rfl (by kernel_rfl) Try.func9 (by kernel_rfl)
    (of_decide_eq_true (by kernel_rfl)) (by unfold Func.isWrapper; first | (rw [if_pos (by decide +kernel)]; kernel_rfl) | (rw [if_neg (by decide +kernel)]; exact ⟨rfl, rfl⟩))
    (fun os started H enc _ => labelStrict_lifted os started H enc)
end Go.Proofs.Ytkiciojipiakoaa
