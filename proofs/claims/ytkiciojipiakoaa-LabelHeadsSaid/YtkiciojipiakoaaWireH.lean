/- The reference's readers. -/
import Derived.Test.YtkiciojipiakoaaWireG
import Derived.RegionTactic
import Derived.ChangeAlike
namespace Go.Proofs.Ytkiciojipiakoaa
set_option linter.unusedVariables false
set_option linter.unusedSimpArgs false
set_option linter.unusedSectionVars false
open Go.RowKit

def rv (s : ByteArray) (err : Int) : Value := .agg #[.string s, .int .i64 err]
set_option maxRecDepth 100000 in
set_option maxHeartbeats 1000000 in
theorem reffail_any (k : Int) (w : World) :
    Calls Try.prog 67 #[.int .i64 k] w fun e w' => e = .returned (.agg #[.string ⟨#[]⟩, .int .i64 k]) ∧ Grew w w' := by
  go_enter Try.func67, Try.ntmps67
  go_wp2
  go_returns
  exact ⟨rfl, by (repeat' first | (with_reducible exact Grew.refl _) | (with_reducible assumption) | (with_reducible refine Grew.alloc ?_ _) | (with_reducible refine Grew.drew ?_) | (with_reducible refine Grew.drewN ?_ _) | (with_reducible refine Grew.setRow ?_ (by first | (simp; done) | (simp; omega) | omega) _) | (with_reducible refine Grew.setCell ?_ (by first | (simp; done) | (simp; omega) | omega) _) | ((with_reducible apply Grew.trans); rotate_left; (with_reducible assumption)) | ((with_reducible apply Grew.turn); rotate_left; (with_reducible assumption); (focus (intro i hi; first | omega | (simp at hi; omega)))) | fail)⟩
set_option maxRecDepth 100000 in
set_option maxHeartbeats 1000000 in
theorem refNumber_err (s : ByteArray) (err : Int) (w : World) (he : err ≠ 0) :
    Calls Try.prog 66 #[.agg #[.string s, .int .i64 err]] w fun e w' => e = .returned (.tuple #[.int .u64 0, .agg #[.string s, .int .i64 err]]) ∧ Grew w w' := by
  go_enter Try.func66, Try.ntmps66
  go_wp2
  go_region
  all_goals
    go_wp2
    go_returns
  all_goals exact ⟨rfl, by (repeat' first | (with_reducible exact Grew.refl _) | (with_reducible assumption) | (with_reducible refine Grew.alloc ?_ _) | (with_reducible refine Grew.drew ?_) | (with_reducible refine Grew.drewN ?_ _) | (with_reducible refine Grew.setRow ?_ (by first | (simp; done) | (simp; omega) | omega) _) | (with_reducible refine Grew.setCell ?_ (by first | (simp; done) | (simp; omega) | omega) _) | ((with_reducible apply Grew.trans); rotate_left; (with_reducible assumption)) | ((with_reducible apply Grew.turn); rotate_left; (with_reducible assumption); (focus (intro i hi; first | omega | (simp at hi; omega)))) | fail)⟩
theorem addval (m k : Nat) (b : UInt8) (hc : b.toNat % 128 * 128 ^ k + m < 18446744073709551616) :
    IntKind.u64.wrap ((m : Int) + IntKind.u64.wrap ((b.toNat : Int) % 128 * 2 ^ (7 * k))) = ((m + b.toNat % 128 * 128 ^ k : Nat) : Int) := by
  rw [show (b.toNat : Int) % 128 = ((b.toNat % 128 : Nat) : Int) from by omega, cast_mul_pow, two7]
  generalize b.toNat % 128 * 128 ^ k = x at *
  rw [IntKind.wrap_u64, IntKind.wrap_u64]
  omega
theorem addval9 (m : Nat) (b : UInt8) (hb : b.toNat ≤ 1) (hm : m < 9223372036854775808) :
    IntKind.u64.wrap ((m : Int) + IntKind.u64.wrap ((b.toNat : Int) % 128 * 9223372036854775808)) = ((m + b.toNat % 128 * 128 ^ 9 : Nat) : Int) := by
  rw [IntKind.wrap_u64, IntKind.wrap_u64, pow128_9]
  omega

theorem ret_num {a a' b b' : Int} {s s' : ByteArray} (h : a = a') (h1 : s = s') (h2 : b = b') : Ending.returned (.tuple #[.int .u64 a, .agg #[.string s, .int .i64 b]]) = .returned (.tuple #[.int .u64 a', .agg #[.string s', .int .i64 b']]) := by rw [h, h1, h2]
theorem RNum_none (s : ByteArray) (h : dec s.data.toList = (0, 0)) : RNum s 0 = (0, ⟨#[]⟩, 11) := by
  rw [RNum, if_neg (by simp), if_pos (by rw [decN, h])]
theorem RNum_some (s : ByteArray) (v n : Nat) (h : dec s.data.toList = (v, n + 1)) : RNum s 0 = (v, s.extract (n + 1) s.size, 0) := by
  rw [RNum, if_neg (by simp), if_neg (by rw [decN, h]; simp), decN, decV, h]

set_option maxRecDepth 100000 in
set_option maxHeartbeats 2000000 in
theorem refNumber_ok (s : ByteArray) (w : World) (hs : s.size ≤ 9223372036854775807) :
    Calls Try.prog 66 #[.agg #[.string s, .int .i64 0]] w fun e w' => e = .returned (.tuple #[.int .u64 (RNum s 0).1, .agg #[.string (RNum s 0).2.1, .int .i64 (RNum s 0).2.2]]) ∧ Grew w w' := by
  go_enter Try.func66, Try.ntmps66
  go_wp2
  go_loop [4, 5] (fun a b => ∃ (k m : Nat), k ≤ s.size ∧ k ≤ 10 ∧ (k ≤ 9 → m < 128 ^ k) ∧ a = .int .u64 m ∧ b = .int .i64 k ∧ dec s.data.toList = decF k m (s.data.toList.drop k)) (fun _ b => 10 - (intOf b).toNat)
  case atStart => exact ⟨0, 0, by omega, by omega, by simp, rfl, rfl, rfl⟩
  case round =>
    obtain ⟨k, m, hk, hk10, hm, rfl, rfl, hdec⟩ := hrel
    by_cases hlt : k < s.size ∧ k < 10
    · obtain ⟨hl1, hl2⟩ := hlt
      have hbl := (s[k]).toNat_lt
      rw [drop_at s k hl1] at hdec
      replace hm := hm (by omega)
      have HD := Lib.hid hdec
      clear hdec
      by_cases h9 : k = 9
      · subst h9
        by_cases hb : 1 < s[9].toNat
        · have HF := Lib.hid (RNum_none s (by rw [HD.out, decF, if_neg (by omega), if_pos ⟨rfl, hb⟩]))
          go_wp2
          go_returns
          exact ⟨by rw [HF.out]; exact ret_num rfl rfl rfl, by (repeat' first | (with_reducible exact Grew.refl _) | (with_reducible assumption) | (with_reducible refine Grew.alloc ?_ _) | (with_reducible refine Grew.drew ?_) | (with_reducible refine Grew.drewN ?_ _) | (with_reducible refine Grew.setRow ?_ (by first | (simp; done) | (simp; omega) | omega) _) | (with_reducible refine Grew.setCell ?_ (by first | (simp; done) | (simp; omega) | omega) _) | ((with_reducible apply Grew.trans); rotate_left; (with_reducible assumption)) | ((with_reducible apply Grew.turn); rotate_left; (with_reducible assumption); (focus (intro i hi; first | omega | (simp at hi; omega)))) | fail)⟩
        · rw [pow128_9] at hm
          have hv := addval9 m s[9] (by omega) hm
          have hlt : s[9].toNat < 128 := by omega
          by_cases h0 : s[9].toNat = 0
          · have HF := Lib.hid (RNum_none s (by rw [HD.out, decF, if_neg (by omega), if_neg (fun h => hb h.2), if_pos hlt, if_pos ⟨h0, by omega⟩]))
            have h0' : s[9].toNat ≤ 0 := by omega
            clear h0
            go_wp2
            go_returns
            exact ⟨by rw [HF.out]; exact ret_num rfl rfl rfl, by (repeat' first | (with_reducible exact Grew.refl _) | (with_reducible assumption) | (with_reducible refine Grew.alloc ?_ _) | (with_reducible refine Grew.drew ?_) | (with_reducible refine Grew.drewN ?_ _) | (with_reducible refine Grew.setRow ?_ (by first | (simp; done) | (simp; omega) | omega) _) | (with_reducible refine Grew.setCell ?_ (by first | (simp; done) | (simp; omega) | omega) _) | ((with_reducible apply Grew.trans); rotate_left; (with_reducible assumption)) | ((with_reducible apply Grew.turn); rotate_left; (with_reducible assumption); (focus (intro i hi; first | omega | (simp at hi; omega)))) | fail)⟩
          · have HF := Lib.hid (RNum_some s _ 9 (by rw [HD.out, decF, if_neg (by omega), if_neg (fun h => hb h.2), if_pos hlt, if_neg (fun h => h0 h.1)]))
            go_wp2
            go_region
            go_wp2
            go_returns
            exact ⟨by rw [HF.out]; exact ret_num (by rw [pow128_9]; omega) rfl rfl, by (repeat' first | (with_reducible exact Grew.refl _) | (with_reducible assumption) | (with_reducible refine Grew.alloc ?_ _) | (with_reducible refine Grew.drew ?_) | (with_reducible refine Grew.drewN ?_ _) | (with_reducible refine Grew.setRow ?_ (by first | (simp; done) | (simp; omega) | omega) _) | (with_reducible refine Grew.setCell ?_ (by first | (simp; done) | (simp; omega) | omega) _) | ((with_reducible apply Grew.trans); rotate_left; (with_reducible assumption)) | ((with_reducible apply Grew.turn); rotate_left; (with_reducible assumption); (focus (intro i hi; first | omega | (simp at hi; omega)))) | fail)⟩
      · have hk8 : k ≤ 8 := by omega
        have hlo := orval_lo m k s[k] hk8 hm
        have hv := addval m k s[k] hlo.1
        have HL := Lib.hid hlo.2
        by_cases hlt : s[k].toNat < 128
        · by_cases h0 : s[k].toNat = 0
          · by_cases hk0 : k = 0
            · subst hk0
              have hm0 : m = 0 := by rw [Nat.pow_zero] at hm; omega
              subst hm0
              have HF := Lib.hid (RNum_some s _ 0 (by rw [HD.out, decF, if_neg (by omega), if_neg (by omega), if_pos hlt, if_neg (by omega)]))
              have H0 := Lib.hid h0
              have h0' : s[0].toNat ≤ 0 := by omega
              clear h0 hm hlo
              go_wp2
              go_region
              go_wp2
              go_returns
              exact ⟨by rw [HF.out]; exact ret_num (by rw [H0.out]; rfl) rfl rfl, by (repeat' first | (with_reducible exact Grew.refl _) | (with_reducible assumption) | (with_reducible refine Grew.alloc ?_ _) | (with_reducible refine Grew.drew ?_) | (with_reducible refine Grew.drewN ?_ _) | (with_reducible refine Grew.setRow ?_ (by first | (simp; done) | (simp; omega) | omega) _) | (with_reducible refine Grew.setCell ?_ (by first | (simp; done) | (simp; omega) | omega) _) | ((with_reducible apply Grew.trans); rotate_left; (with_reducible assumption)) | ((with_reducible apply Grew.turn); rotate_left; (with_reducible assumption); (focus (intro i hi; first | omega | (simp at hi; omega)))) | fail)⟩
            · have HF := Lib.hid (RNum_none s (by rw [HD.out, decF, if_neg (by omega), if_neg (by omega), if_pos hlt, if_pos ⟨h0, by omega⟩]))
              have h0' : s[k].toNat ≤ 0 := by omega
              clear h0 hm hlo
              go_wp2
              go_returns
              exact ⟨by rw [HF.out]; exact ret_num rfl rfl rfl, by (repeat' first | (with_reducible exact Grew.refl _) | (with_reducible assumption) | (with_reducible refine Grew.alloc ?_ _) | (with_reducible refine Grew.drew ?_) | (with_reducible refine Grew.drewN ?_ _) | (with_reducible refine Grew.setRow ?_ (by first | (simp; done) | (simp; omega) | omega) _) | (with_reducible refine Grew.setCell ?_ (by first | (simp; done) | (simp; omega) | omega) _) | ((with_reducible apply Grew.trans); rotate_left; (with_reducible assumption)) | ((with_reducible apply Grew.turn); rotate_left; (with_reducible assumption); (focus (intro i hi; first | omega | (simp at hi; omega)))) | fail)⟩
          · have HF := Lib.hid (RNum_some s _ k (by rw [HD.out, decF, if_neg (by omega), if_neg (by omega), if_pos hlt, if_neg (fun h => h0 h.1)]))
            clear hm hlo
            go_wp2
            go_region
            go_wp2
            go_returns
            exact ⟨by rw [HF.out]; exact ret_num (by simp) rfl rfl, by (repeat' first | (with_reducible exact Grew.refl _) | (with_reducible assumption) | (with_reducible refine Grew.alloc ?_ _) | (with_reducible refine Grew.drew ?_) | (with_reducible refine Grew.drewN ?_ _) | (with_reducible refine Grew.setRow ?_ (by first | (simp; done) | (simp; omega) | omega) _) | (with_reducible refine Grew.setCell ?_ (by first | (simp; done) | (simp; omega) | omega) _) | ((with_reducible apply Grew.trans); rotate_left; (with_reducible assumption)) | ((with_reducible apply Grew.turn); rotate_left; (with_reducible assumption); (focus (intro i hi; first | omega | (simp at hi; omega)))) | fail)⟩
        · have HF := Lib.hid (show dec s.data.toList = _ by rw [HD.out, decF, if_neg (by omega), if_neg (by omega), if_neg hlt])
          clear hm hlo
          go_wp2
          go_round
          case rel => exact ⟨k + 1, m + s[k].toNat % 128 * 128 ^ k, by omega, by omega, fun _ => HL.out, by simp, by go_num, HF.out⟩
          case measure => simp [intOf]; omega
    · have hfin : decF k m (s.data.toList.drop k) = (0, 0) := by
        by_cases h10 : k = 10
        · rw [h10]; exact decF_ten _ _
        · rw [List.drop_eq_nil_of_le (by simp; omega)]; rfl
      rw [hfin] at hdec
      have HF := Lib.hid (RNum_none s hdec)
      clear hdec hfin
      by_cases hl1 : k < s.size
      · have hl2 : ¬ k < 10 := fun h => hlt ⟨hl1, h⟩
        clear hlt hm
        go_wp2
        go_returns
        exact ⟨by rw [HF.out]; exact ret_num rfl rfl rfl, by (repeat' first | (with_reducible exact Grew.refl _) | (with_reducible assumption) | (with_reducible refine Grew.alloc ?_ _) | (with_reducible refine Grew.drew ?_) | (with_reducible refine Grew.drewN ?_ _) | (with_reducible refine Grew.setRow ?_ (by first | (simp; done) | (simp; omega) | omega) _) | (with_reducible refine Grew.setCell ?_ (by first | (simp; done) | (simp; omega) | omega) _) | ((with_reducible apply Grew.trans); rotate_left; (with_reducible assumption)) | ((with_reducible apply Grew.turn); rotate_left; (with_reducible assumption); (focus (intro i hi; first | omega | (simp at hi; omega)))) | fail)⟩
      · clear hlt hm
        go_wp2
        go_returns
        exact ⟨by rw [HF.out]; exact ret_num rfl rfl rfl, by (repeat' first | (with_reducible exact Grew.refl _) | (with_reducible assumption) | (with_reducible refine Grew.alloc ?_ _) | (with_reducible refine Grew.drew ?_) | (with_reducible refine Grew.drewN ?_ _) | (with_reducible refine Grew.setRow ?_ (by first | (simp; done) | (simp; omega) | omega) _) | (with_reducible refine Grew.setCell ?_ (by first | (simp; done) | (simp; omega) | omega) _) | ((with_reducible apply Grew.trans); rotate_left; (with_reducible assumption)) | ((with_reducible apply Grew.turn); rotate_left; (with_reducible assumption); (focus (intro i hi; first | omega | (simp at hi; omega)))) | fail)⟩
theorem refNumber_any (s : ByteArray) (err : Int) (w : World) (hs : s.size ≤ 9223372036854775807) :
    Calls Try.prog 66 #[.agg #[.string s, .int .i64 err]] w fun e w' => e = .returned (.tuple #[.int .u64 (RNum s err).1, .agg #[.string (RNum s err).2.1, .int .i64 (RNum s err).2.2]]) ∧ Grew w w' := by
  by_cases he : err = 0
  · subst he; exact refNumber_ok s w hs
  · have := refNumber_err s err w he
    rw [RNum, if_pos he]
    exact this
end Go.Proofs.Ytkiciojipiakoaa
