/- WireLimits' walk. -/
import Derived.Test.YtfoklokflooapaaWirePrefixW
namespace Go.Proofs.Ytfoklokflooapaa
open Go.RowKit
theorem end_val (g : Nat) (err : Int) (w : World) (h : Rd w g ⟨#[]⟩ err) : Calls Try.prog 23 #[.pointer (some ⟨g, 0, none⟩)] w fun e w' => e = .returned (.int .i64 err) ∧ w = w' := by
  have := rend_same g ⟨#[]⟩ err w h
  rw [REnd, if_neg (fun h => absurd h.2 (by decide))] at this
  exact this
theorem count_val (g : Nat) (s : ByteArray) (most : Int) (w : World) (k : Nat) (err : Int) (hR : RCnt s 0 most = (k, ⟨#[]⟩, err)) (h : Rd w g s 0) (hs : s.size ≤ 9223372036854775807) (hm0 : -9223372036854775808 ≤ most) (hm1 : most ≤ 9223372036854775807) :
    Calls Try.prog 21 #[.pointer (some ⟨g, 0, none⟩), .int .i64 most] w fun e w' => e = .returned (.int .i64 k) ∧ Turned (· = g) w w' ∧ Rd w' g ⟨#[]⟩ err := by
  have := rcount_any g s 0 most w h hs hm0 hm1
  rw [hR] at this
  exact this
theorem text_val (g : Nat) (s : ByteArray) (most : Int) (w : World) (err : Int) (hR : RTxt s 0 most = (⟨#[]⟩, ⟨#[]⟩, err)) (h : Rd w g s 0) (hs : s.size ≤ 9223372036854775807) (hm0 : -9223372036854775808 ≤ most) (hm1 : most ≤ 9223372036854775807) :
    Calls Try.prog 22 #[.pointer (some ⟨g, 0, none⟩), .int .i64 most] w fun e w' => e = .returned (.string ⟨#[]⟩) ∧ Turned (· = g) w w' ∧ Rd w' g ⟨#[]⟩ err := by
  have := rtext_any g s 0 most w h hs hm0 hm1
  rw [hR] at this
  exact this
set_option maxRecDepth 100000 in
set_option maxHeartbeats 2000000 in
theorem limits_neg (N n : Nat) (most : Int) (w : World) (hn : N % 1099511627776 = n) (hm0 : -9223372036854775808 ≤ most) (hm1 : most ≤ 9223372036854775807) (hc : most < 0) :
    Calls Try.prog 6 #[.int .u64 N, .int .i64 most] w fun e w' => e = .returned (.bool true) ∧ Grew w w' := by
  have hn2 : n < 1099511627776 := by omega
  first | obtain ⟨hc, rfl⟩ := hc | skip
  have hmod : (N : Int) % 1099511627776 = ((n : Nat) : Int) := by omega
  have R1 := Lib.hid (show RCnt ⟨(enc n).toArray⟩ 0 most = (0, ⟨#[]⟩, 8) from RCnt_enc_hi _ _ (by omega) (by omega))
  have R2 := Lib.hid (show RTxt ⟨(enc n).toArray⟩ 0 most = (⟨#[]⟩, ⟨#[]⟩, 8) from RTxt_enc_hi _ _ (by omega) (by omega))
  have la := enc_len n
  have hz := True.intro
  have hc' : 0 ≤ most ∨ most < 0 := by omega
  try obtain ⟨hc1, hc2⟩ := hc
  clear hn
  go_enter Try.func6, Try.ntmps6
  go_wp2_with fail
  refine (awake_any w).mono ?_
  rintro e w1 ⟨rfl, g1⟩
  go_wp2_with fail
  refine (app_empty n w1 (by omega)).mono ?_
  rintro e w2 ⟨rfl, g2⟩
  go_wp2_with fail
  refine (newReader_any _ _).mono ?_
  rintro e w3 ⟨ga, rfl, ha, g3, hra⟩
  go_wp2_with fail
  refine (newReader_any _ _).mono ?_
  rintro e w4 ⟨gb, rfl, hb, g4, hrb⟩
  have hra4 : Rd w4 ga _ _ := Blk.grew hra g4
  have hne : ga ≠ gb := by have := hra.lt; omega
  have hsz : ByteArray.size ⟨(enc n).toArray⟩ ≤ 9223372036854775807 := by show (enc n).toArray.size ≤ _; simp; omega
  go_wp2_with fail
  refine (count_val ga _ most w4 0 8 R1.out hra4 hsz hm0 hm1).mono ?_
  rintro e w5 ⟨rfl, t5, hr5⟩
  have hrb5 : Rd w5 gb _ _ := Blk.turned hrb t5 (by omega)
  go_wp2_with fail
  refine (text_val gb _ most w5 8 R2.out hrb5 hsz hm0 hm1).mono ?_
  rintro e w6 ⟨rfl, t6, hr6⟩
  have hra6 : Rd w6 ga _ _ := Blk.turned hr5 t6 (by omega)
  have hG : Grew w w6 := (((g1.trans g2).trans (g3.trans g4)).turn t5 (by rintro i rfl; exact Nat.le_trans (g1.trans g2).size ha)).turn t6 (by rintro i rfl; exact Nat.le_trans ((g1.trans g2).trans g3).size hb)
  clear g1 g2 g3 g4 t5 t6 hra hrb hra4 hr5 hrb5
  go_wp2_with fail
  refine (end_val ga 8 w6 hra6).mono ?_
  rintro e w7 ⟨rfl, rfl⟩
  go_wp2_with fail
  refine (end_val gb 8 w6 hr6).mono ?_
  rintro e w7 ⟨rfl, rfl⟩
  go_wp2_with fail
  skip
  go_ret
  exact ⟨rfl, hG⟩
set_option maxRecDepth 100000 in
set_option maxHeartbeats 2000000 in
theorem limits_hi (N n : Nat) (most : Int) (w : World) (hn : N % 1099511627776 = n) (hm0 : -9223372036854775808 ≤ most) (hm1 : most ≤ 9223372036854775807) (hc : 0 ≤ most ∧ most < (n : Int)) :
    Calls Try.prog 6 #[.int .u64 N, .int .i64 most] w fun e w' => e = .returned (.bool true) ∧ Grew w w' := by
  have hn2 : n < 1099511627776 := by omega
  first | obtain ⟨hc, rfl⟩ := hc | skip
  have hmod : (N : Int) % 1099511627776 = ((n : Nat) : Int) := by omega
  have R1 := Lib.hid (show RCnt ⟨(enc n).toArray⟩ 0 most = (0, ⟨#[]⟩, 8) from RCnt_enc_hi _ _ (by omega) (by omega))
  have R2 := Lib.hid (show RTxt ⟨(enc n).toArray⟩ 0 most = (⟨#[]⟩, ⟨#[]⟩, 8) from RTxt_enc_hi _ _ (by omega) (by omega))
  have la := enc_len n
  have hz := True.intro
  have hc' : 0 ≤ most ∨ most < 0 := by omega
  try obtain ⟨hc1, hc2⟩ := hc
  clear hn
  go_enter Try.func6, Try.ntmps6
  go_wp2_with fail
  refine (awake_any w).mono ?_
  rintro e w1 ⟨rfl, g1⟩
  go_wp2_with fail
  refine (app_empty n w1 (by omega)).mono ?_
  rintro e w2 ⟨rfl, g2⟩
  go_wp2_with fail
  refine (newReader_any _ _).mono ?_
  rintro e w3 ⟨ga, rfl, ha, g3, hra⟩
  go_wp2_with fail
  refine (newReader_any _ _).mono ?_
  rintro e w4 ⟨gb, rfl, hb, g4, hrb⟩
  have hra4 : Rd w4 ga _ _ := Blk.grew hra g4
  have hne : ga ≠ gb := by have := hra.lt; omega
  have hsz : ByteArray.size ⟨(enc n).toArray⟩ ≤ 9223372036854775807 := by show (enc n).toArray.size ≤ _; simp; omega
  go_wp2_with fail
  refine (count_val ga _ most w4 0 8 R1.out hra4 hsz hm0 hm1).mono ?_
  rintro e w5 ⟨rfl, t5, hr5⟩
  have hrb5 : Rd w5 gb _ _ := Blk.turned hrb t5 (by omega)
  go_wp2_with fail
  refine (text_val gb _ most w5 8 R2.out hrb5 hsz hm0 hm1).mono ?_
  rintro e w6 ⟨rfl, t6, hr6⟩
  have hra6 : Rd w6 ga _ _ := Blk.turned hr5 t6 (by omega)
  have hG : Grew w w6 := (((g1.trans g2).trans (g3.trans g4)).turn t5 (by rintro i rfl; exact Nat.le_trans (g1.trans g2).size ha)).turn t6 (by rintro i rfl; exact Nat.le_trans ((g1.trans g2).trans g3).size hb)
  clear g1 g2 g3 g4 t5 t6 hra hrb hra4 hr5 hrb5
  go_wp2_with fail
  refine (end_val ga 8 w6 hra6).mono ?_
  rintro e w7 ⟨rfl, rfl⟩
  go_wp2_with fail
  refine (end_val gb 8 w6 hr6).mono ?_
  rintro e w7 ⟨rfl, rfl⟩
  go_wp2_with fail
  skip
  go_ret
  exact ⟨rfl, hG⟩
set_option maxRecDepth 100000 in
set_option maxHeartbeats 2000000 in
theorem limits_pos (N n : Nat) (most : Int) (w : World) (hn : N % 1099511627776 = n) (hm0 : -9223372036854775808 ≤ most) (hm1 : most ≤ 9223372036854775807) (hc : 0 ≤ most ∧ (n : Int) ≤ most ∧ 0 < n) :
    Calls Try.prog 6 #[.int .u64 N, .int .i64 most] w fun e w' => e = .returned (.bool true) ∧ Grew w w' := by
  have hn2 : n < 1099511627776 := by omega
  first | obtain ⟨hc, rfl⟩ := hc | skip
  have hmod : (N : Int) % 1099511627776 = ((n : Nat) : Int) := by omega
  have R1 := Lib.hid (show RCnt ⟨(enc n).toArray⟩ 0 most = (n, ⟨#[]⟩, 0) from RCnt_enc_lo _ _ (by omega) (by omega))
  have R2 := Lib.hid (show RTxt ⟨(enc n).toArray⟩ 0 most = (⟨#[]⟩, ⟨#[]⟩, 11) from RTxt_enc_pos _ _ (by omega) (by omega) (by omega))
  have la := enc_len n
  have hz := (beq_eq_false_iff_ne.2 (by omega) : ((n : Int) == 0) = false)
  have hc' : 0 ≤ most ∨ most < 0 := by omega
  try obtain ⟨hc1, hc2⟩ := hc
  clear hn
  go_enter Try.func6, Try.ntmps6
  go_wp2_with fail
  refine (awake_any w).mono ?_
  rintro e w1 ⟨rfl, g1⟩
  go_wp2_with fail
  refine (app_empty n w1 (by omega)).mono ?_
  rintro e w2 ⟨rfl, g2⟩
  go_wp2_with fail
  refine (newReader_any _ _).mono ?_
  rintro e w3 ⟨ga, rfl, ha, g3, hra⟩
  go_wp2_with fail
  refine (newReader_any _ _).mono ?_
  rintro e w4 ⟨gb, rfl, hb, g4, hrb⟩
  have hra4 : Rd w4 ga _ _ := Blk.grew hra g4
  have hne : ga ≠ gb := by have := hra.lt; omega
  have hsz : ByteArray.size ⟨(enc n).toArray⟩ ≤ 9223372036854775807 := by show (enc n).toArray.size ≤ _; simp; omega
  go_wp2_with fail
  refine (count_val ga _ most w4 n 0 R1.out hra4 hsz hm0 hm1).mono ?_
  rintro e w5 ⟨rfl, t5, hr5⟩
  have hrb5 : Rd w5 gb _ _ := Blk.turned hrb t5 (by omega)
  go_wp2_with fail
  refine (text_val gb _ most w5 11 R2.out hrb5 hsz hm0 hm1).mono ?_
  rintro e w6 ⟨rfl, t6, hr6⟩
  have hra6 : Rd w6 ga _ _ := Blk.turned hr5 t6 (by omega)
  have hG : Grew w w6 := (((g1.trans g2).trans (g3.trans g4)).turn t5 (by rintro i rfl; exact Nat.le_trans (g1.trans g2).size ha)).turn t6 (by rintro i rfl; exact Nat.le_trans ((g1.trans g2).trans g3).size hb)
  clear g1 g2 g3 g4 t5 t6 hra hrb hra4 hr5 hrb5
  go_wp2_with fail
  refine (end_val ga 0 w6 hra6).mono ?_
  rintro e w7 ⟨rfl, rfl⟩
  go_wp2_with fail
  refine (end_val gb 11 w6 hr6).mono ?_
  rintro e w7 ⟨rfl, rfl⟩
  go_wp2_with fail
  (refine (end_val gb 11 w6 hr6).mono ?_; rintro e w7 ⟨rfl, rfl⟩; go_wp2_with fail)
  go_ret
  exact ⟨rfl, hG⟩
set_option maxRecDepth 100000 in
set_option maxHeartbeats 2000000 in
theorem limits_zero (N n : Nat) (most : Int) (w : World) (hn : N % 1099511627776 = n) (hm0 : -9223372036854775808 ≤ most) (hm1 : most ≤ 9223372036854775807) (hc : 0 ≤ most ∧ n = 0) :
    Calls Try.prog 6 #[.int .u64 N, .int .i64 most] w fun e w' => e = .returned (.bool true) ∧ Grew w w' := by
  have hn2 : n < 1099511627776 := by omega
  first | obtain ⟨hc, rfl⟩ := hc | skip
  have hmod : (N : Int) % 1099511627776 = ((0 : Nat) : Int) := by omega
  have R1 := Lib.hid (show RCnt ⟨(enc 0).toArray⟩ 0 most = (0, ⟨#[]⟩, 0) from RCnt_enc_lo _ _ (by omega) (by omega))
  have R2 := Lib.hid (show RTxt ⟨(enc 0).toArray⟩ 0 most = (⟨#[]⟩, ⟨#[]⟩, 0) from RTxt_enc_0 _ (by omega))
  have la := enc_len 0
  have hz := True.intro
  have hc' : 0 ≤ most ∨ most < 0 := by omega
  try obtain ⟨hc1, hc2⟩ := hc
  clear hn
  go_enter Try.func6, Try.ntmps6
  go_wp2_with fail
  refine (awake_any w).mono ?_
  rintro e w1 ⟨rfl, g1⟩
  go_wp2_with fail
  refine (app_empty 0 w1 (by omega)).mono ?_
  rintro e w2 ⟨rfl, g2⟩
  go_wp2_with fail
  refine (newReader_any _ _).mono ?_
  rintro e w3 ⟨ga, rfl, ha, g3, hra⟩
  go_wp2_with fail
  refine (newReader_any _ _).mono ?_
  rintro e w4 ⟨gb, rfl, hb, g4, hrb⟩
  have hra4 : Rd w4 ga _ _ := Blk.grew hra g4
  have hne : ga ≠ gb := by have := hra.lt; omega
  have hsz : ByteArray.size ⟨(enc 0).toArray⟩ ≤ 9223372036854775807 := by show (enc 0).toArray.size ≤ _; simp; omega
  go_wp2_with fail
  refine (count_val ga _ most w4 0 0 R1.out hra4 hsz hm0 hm1).mono ?_
  rintro e w5 ⟨rfl, t5, hr5⟩
  have hrb5 : Rd w5 gb _ _ := Blk.turned hrb t5 (by omega)
  go_wp2_with fail
  refine (text_val gb _ most w5 0 R2.out hrb5 hsz hm0 hm1).mono ?_
  rintro e w6 ⟨rfl, t6, hr6⟩
  have hra6 : Rd w6 ga _ _ := Blk.turned hr5 t6 (by omega)
  have hG : Grew w w6 := (((g1.trans g2).trans (g3.trans g4)).turn t5 (by rintro i rfl; exact Nat.le_trans (g1.trans g2).size ha)).turn t6 (by rintro i rfl; exact Nat.le_trans ((g1.trans g2).trans g3).size hb)
  clear g1 g2 g3 g4 t5 t6 hra hrb hra4 hr5 hrb5
  go_wp2_with fail
  refine (end_val ga 0 w6 hra6).mono ?_
  rintro e w7 ⟨rfl, rfl⟩
  go_wp2_with fail
  refine (end_val gb 0 w6 hr6).mono ?_
  rintro e w7 ⟨rfl, rfl⟩
  go_wp2_with fail
  skip
  go_ret
  exact ⟨rfl, hG⟩
theorem wireLimits_any (N : Nat) (most : Int) (w : World) (_hN : N < 18446744073709551616) (hm0 : -9223372036854775808 ≤ most) (hm1 : most ≤ 9223372036854775807) :
    Calls Try.prog 6 #[.int .u64 N, .int .i64 most] w fun e w' => e = .returned (.bool true) ∧ Grew w w' := by
  by_cases h0 : most < 0
  · exact limits_neg N _ most w rfl hm0 hm1 h0
  · by_cases h1 : most < ((N % 1099511627776 : Nat) : Int)
    · exact limits_hi N _ most w rfl hm0 hm1 ⟨by omega, h1⟩
    · by_cases h2 : N % 1099511627776 = 0
      · exact limits_zero N _ most w rfl hm0 hm1 ⟨by omega, h2⟩
      · exact limits_pos N _ most w rfl hm0 hm1 ⟨by omega, by omega, by omega⟩
end Go.Proofs.Ytfoklokflooapaa
