/- The reader's methods, built on Number. -/
import Derived.Test.YtkiciojipiakoaaWireE
namespace Go.Proofs.Ytkiciojipiakoaa
set_option linter.unusedVariables false
set_option linter.unusedSimpArgs false
set_option linter.unusedSectionVars false
open Go.RowKit

theorem decF_acc (l : List UInt8) : ∀ i acc, i ≤ 9 → acc < 128 ^ i → (decF i acc l).1 < 18446744073709551616 := by
  induction l with
  | nil => intro i acc _ _; simp [decF]
  | cons b l ih =>
    intro i acc hi ha
    have hb := b.toNat_lt
    by_cases h9 : i = 9
    · subst h9
      rw [pow128_9] at ha
      rw [decF, if_neg (by omega)]
      split
      · simp
      · rename_i h
        split
        · split
          · simp
          · rw [pow128_9]
            have h1 : b.toNat ≤ 1 := by omega
            show acc + b.toNat % 128 * 9223372036854775808 < _
            have : b.toNat % 128 ≤ 1 := by omega
            omega
        · rw [decF_ten]; simp
    · have hlo := orval_lo acc i b (by omega) ha
      rw [decF, if_neg (by omega), if_neg (by omega)]
      split
      · split
        · simp
        · show acc + _ < _
          omega
      · exact ih (i + 1) _ (by omega) hlo.2
theorem decV_lt (l : List UInt8) : decV l < 18446744073709551616 := decF_acc l 0 0 (by omega) (by simp)
theorem RNum_lt (s : ByteArray) (err : Int) : (RNum s err).1 < 18446744073709551616 := by
  unfold RNum
  repeat' split
  · show 0 < _; omega
  · show 0 < _; omega
  · exact decV_lt _
theorem RNum_zero (s : ByteArray) (err : Int) (h : (RNum s err).2.2 ≠ 0) : (RNum s err).1 = 0 := by
  unfold RNum at h ⊢
  by_cases h1 : err ≠ 0
  · rw [if_pos h1]
  · rw [if_neg h1] at h ⊢
    split
    · rfl
    · rename_i h2
      rw [if_neg h2] at h
      exact absurd rfl h

set_option maxRecDepth 100000 in
set_option maxHeartbeats 1000000 in
theorem rcount_any (g : Nat) (s : ByteArray) (err most : Int) (w : World) (h : Rd w g s err) (hs : s.size ≤ 9223372036854775807) (hm0 : -9223372036854775808 ≤ most) (hm1 : most ≤ 9223372036854775807) :
    Calls Try.prog 53 #[.pointer (some ⟨g, 0, none⟩), .int .i64 most] w fun e w' => e = .returned (.int .i64 (RCnt s err most).1) ∧ Turned (· = g) w w' ∧ Rd w' g (RCnt s err most).2.1 (RCnt s err most).2.2 := by
  have hlt := RNum_lt s err
  unfold RCnt
  by_cases he : (RNum s err).2.2 ≠ 0
  · rw [if_pos he]
    go_enter Try.func53, Try.ntmps53
    go_wp2_with fail
    refine (rnumber_any g s err w h hs).mono ?_
    rintro e w1 ⟨rfl, ht, hr⟩
    obtain ⟨hl, c0, c1, f0, f1⟩ := hr.facts
    go_wp2_with fail
    go_ret
    exact ⟨rfl, ht, hr⟩
  · rw [if_neg he]
    have he0 : (RNum s err).2.2 = 0 := by omega
    have HE := Lib.hid he0
    clear he0 he
    by_cases hc : most < 0 ∨ most < ((RNum s err).1 : Int)
    · rw [if_pos hc]
      by_cases hc1 : most < 0
      · clear hc
        go_enter Try.func53, Try.ntmps53
        go_wp2_with fail
        refine (rnumber_any g s err w h hs).mono ?_
        rintro e w1 ⟨rfl, ht, hr⟩
        rw [HE.out] at hr
        obtain ⟨hl, c0, c1, f0, f1⟩ := hr.facts
        go_wp2_with fail
        refine (rfail_any g _ 8 w1 hr).mono ?_
        rintro e w2 ⟨rfl, ht2, hr2⟩
        go_wp2_with fail
        go_ret
        exact ⟨rfl, ht.trans ht2, hr2⟩
      · have hc2 : most < ((RNum s err).1 : Int) := by omega
        clear hc
        go_enter Try.func53, Try.ntmps53
        go_wp2_with fail
        refine (rnumber_any g s err w h hs).mono ?_
        rintro e w1 ⟨rfl, ht, hr⟩
        rw [HE.out] at hr
        obtain ⟨hl, c0, c1, f0, f1⟩ := hr.facts
        go_wp2_with fail
        refine (rfail_any g _ 8 w1 hr).mono ?_
        rintro e w2 ⟨rfl, ht2, hr2⟩
        go_wp2_with fail
        go_ret
        exact ⟨rfl, ht.trans ht2, hr2⟩
    · rw [if_neg hc]
      have hc1 : 0 ≤ most := by omega
      have hc2 : ((RNum s err).1 : Int) ≤ most := by omega
      clear hc
      go_enter Try.func53, Try.ntmps53
      go_wp2_with fail
      refine (rnumber_any g s err w h hs).mono ?_
      rintro e w1 ⟨rfl, ht, hr⟩
      have hr0 := hr
      rw [HE.out] at hr0
      obtain ⟨hl, c0, c1, f0, f1⟩ := hr0.facts
      go_wp2_with fail
      go_ret
      exact ⟨rfl, ht, hr⟩

theorem RCnt_size (s : ByteArray) (err most : Int) : (RCnt s err most).2.1.size ≤ s.size := by
  unfold RCnt
  have := RNum_size s err
  repeat' split
  · exact this
  · exact Nat.zero_le _
  · exact this
theorem RCnt_lt (s : ByteArray) (err most : Int) (hm1 : most ≤ 9223372036854775807) : (RCnt s err most).1 ≤ 9223372036854775807 := by
  unfold RCnt
  split
  · exact Nat.zero_le _
  · split
    · exact Nat.zero_le _
    · omega

set_option maxRecDepth 100000 in
set_option maxHeartbeats 1000000 in
theorem rtext_any (g : Nat) (s : ByteArray) (err most : Int) (w : World) (h : Rd w g s err) (hs : s.size ≤ 9223372036854775807) (hm0 : -9223372036854775808 ≤ most) (hm1 : most ≤ 9223372036854775807) :
    Calls Try.prog 54 #[.pointer (some ⟨g, 0, none⟩), .int .i64 most] w fun e w' => e = .returned (.string (RTxt s err most).1) ∧ Turned (· = g) w w' ∧ Rd w' g (RTxt s err most).2.1 (RTxt s err most).2.2 := by
  have hsz := RCnt_size s err most
  have hlt := RCnt_lt s err most hm1
  unfold RTxt
  by_cases he : (RCnt s err most).2.2 ≠ 0
  · rw [if_pos he]
    go_enter Try.func54, Try.ntmps54
    go_wp2_with fail
    refine (rcount_any g s err most w h hs hm0 hm1).mono ?_
    rintro e w1 ⟨rfl, ht, hr⟩
    obtain ⟨hl, c0, c1, f0, f1⟩ := hr.facts
    go_wp2_with fail
    go_ret
    exact ⟨rfl, ht, hr⟩
  · rw [if_neg he]
    have he0 : (RCnt s err most).2.2 = 0 := by omega
    have HE := Lib.hid he0
    clear he0 he
    by_cases hc : (RCnt s err most).2.1.size < (RCnt s err most).1
    · rw [if_pos hc]
      go_enter Try.func54, Try.ntmps54
      go_wp2_with fail
      refine (rcount_any g s err most w h hs hm0 hm1).mono ?_
      rintro e w1 ⟨rfl, ht, hr⟩
      rw [HE.out] at hr
      obtain ⟨hl, c0, c1, f0, f1⟩ := hr.facts
      go_wp2_with fail
      refine (rfail_any g _ 11 w1 hr).mono ?_
      rintro e w2 ⟨rfl, ht2, hr2⟩
      go_wp2_with fail
      go_ret
      exact ⟨rfl, ht.trans ht2, hr2⟩
    · rw [if_neg hc]
      go_enter Try.func54, Try.ntmps54
      go_wp2_with fail
      refine (rcount_any g s err most w h hs hm0 hm1).mono ?_
      rintro e w1 ⟨rfl, ht, hr⟩
      rw [HE.out] at hr
      obtain ⟨hl, c0, c1, f0, f1⟩ := hr.facts
      go_wp2_with fail
      go_ret
      unfold Rd at hr ⊢
      exact ⟨rfl, ht.trans (by (repeat' first | (with_reducible exact Turned.refl _ _) | (with_reducible assumption) | (with_reducible refine Turned.alloc ?_ _) | (with_reducible refine Turned.drew ?_) | (with_reducible refine Turned.drewN ?_ _) | (with_reducible refine Turned.setRow ?_ (by first | (simp; done) | (simp; omega) | omega) _) | (with_reducible refine Turned.setCell ?_ (by first | (simp; done) | (simp; omega) | omega) _) | ((with_reducible apply Turned.andGrew); rotate_left; (with_reducible assumption)) | ((with_reducible apply Turned.trans); rotate_left; (with_reducible assumption)) | fail)), by (apply Blk.conv; (· (repeat' first | (with_reducible assumption) | (with_reducible apply Blk.setRow) | ((with_reducible apply Blk.farRow); rotate_left; (focus (first | (simp; done) | (simp; omega) | omega))) | (with_reducible apply Blk.drew) | (with_reducible apply Blk.drewN) | (with_reducible apply Blk.set_) | (with_reducible exact Blk.new _ _ _ (by first | rfl | (simp; done) | (simp; omega))) | (with_reducible apply Blk.alloc) | ((with_reducible apply Blk.far); rotate_left; (focus (first | (simp; done) | (simp; omega) | omega))) | ((with_reducible apply Blk.grew); rotate_left; (with_reducible assumption)) | ((with_reducible apply Blk.turned); rotate_left; (with_reducible assumption); (focus (first | (simp; done) | (simp; omega) | omega))) | fail)); (· rfl))⟩

theorem and1 (n : Nat) (h : n < 18446744073709551616) : bits BinOp.and IntKind.u64 (n : Int) 1 = ((n % 2 : Nat) : Int) := by
  show IntKind.u64.wrap ((BitVec.ofInt 64 (n : Int) &&& BitVec.ofInt 64 1).toNat : Int) = _
  rw [show BitVec.ofInt 64 1 = 1#64 from rfl, BitVec.ofInt_natCast, BitVec.toNat_and, BitVec.toNat_ofNat, IntKind.wrap_u64]
  rw [show (1#64).toNat = 1 from rfl, Nat.and_one_is_mod, Nat.mod_eq_of_lt h]
  omega
theorem xor_zero_i64 (a : Int) (h0 : 0 ≤ a) (h1 : a < 9223372036854775808) : bits .xor .i64 a 0 = a := by
  show IntKind.i64.wrap ((BitVec.ofInt 64 a ^^^ BitVec.ofInt 64 0).toNat : Int) = _
  rw [show BitVec.ofInt 64 0 = 0#64 from rfl, BitVec.xor_zero, IntKind.wrap_i64, BitVec.toNat_ofInt]
  omega
theorem xor_ones_i64 (a : Int) (h0 : 0 ≤ a) (h1 : a < 9223372036854775808) : bits .xor .i64 a (-1) = -a - 1 := by
  show IntKind.i64.wrap ((BitVec.ofInt 64 a ^^^ BitVec.ofInt 64 (-1)).toNat : Int) = _
  rw [show BitVec.ofInt 64 (-1) = BitVec.allOnes 64 from by decide, BitVec.xor_allOnes, IntKind.wrap_i64, BitVec.toNat_not, BitVec.toNat_ofInt]
  omega
theorem unzig_xor (n : Nat) (h : n < 18446744073709551616) : bits BinOp.xor IntKind.i64 ((n : Int) / 2) (-((n : Int) % 2)) = unzig n := by
  rw [show (n : Int) % 2 = ((n % 2 : Nat) : Int) from by omega]
  unfold unzig
  rcases Nat.mod_two_eq_zero_or_one n with h2 | h2
  · rw [h2, if_neg (by omega)]
    rw [show (-((0 : Nat) : Int)) = 0 from rfl, xor_zero_i64 _ (by omega) (by omega)]
    omega
  · rw [h2, if_pos rfl]
    rw [show (-((1 : Nat) : Int)) = -1 from rfl, xor_ones_i64 _ (by omega) (by omega)]
    omega
end Go.Proofs.Ytkiciojipiakoaa
