/- The reference's readers, built on ReadNumber. -/
import Derived.Test.YtfoklokflooapaaWireH
namespace Go.Proofs.Ytfoklokflooapaa
open Go.RowKit

theorem ret_ii {k : IntKind} {a a' b b' : Int} {s s' : ByteArray} (h : a = a') (h1 : s = s') (h2 : b = b') : Ending.returned (.tuple #[.int k a, .agg #[.string s, .int .i64 b]]) = .returned (.tuple #[.int k a', .agg #[.string s', .int .i64 b']]) := by rw [h, h1, h2]
theorem ret_si {a a' : ByteArray} {b b' : Int} {s s' : ByteArray} (h : a = a') (h1 : s = s') (h2 : b = b') : Ending.returned (.tuple #[.string a, .agg #[.string s, .int .i64 b]]) = .returned (.tuple #[.string a', .agg #[.string s', .int .i64 b']]) := by rw [h, h1, h2]
theorem ret_bi {a a' : Bool} {b b' : Int} {s s' : ByteArray} (h : a = a') (h1 : s = s') (h2 : b = b') : Ending.returned (.tuple #[.bool a, .agg #[.string s, .int .i64 b]]) = .returned (.tuple #[.bool a', .agg #[.string s', .int .i64 b']]) := by rw [h, h1, h2]

set_option maxRecDepth 100000 in
set_option maxHeartbeats 2000000 in
theorem refReadInt_any (s : ByteArray) (err : Int) (w : World) (hs : s.size ≤ 9223372036854775807) :
    Calls Try.prog 26 #[.agg #[.string s, .int .i64 err]] w fun e w' => e = .returned (.tuple #[.int .i64 (unzig (RNum s err).1), .agg #[.string (RNum s err).2.1, .int .i64 (RNum s err).2.2]]) ∧ Grew w w' := by
  have hlt := RNum_lt s err
  by_cases h2 : (RNum s err).1 % 2 = 1
  · have hz : unzig (RNum s err).1 = -(((RNum s err).1 / 2 : Nat) : Int) - 1 := by rw [unzig, if_pos h2]
    have HZ := Lib.hid hz
    have h2' : (((RNum s err).1 : Int) % 2 == 1) = true := beq_iff_eq.2 (by omega)
    clear hz h2
    go_enter Try.func26, Try.ntmps26
    go_wp2_with fail
    refine (refNumber_any s err _ hs).mono ?_
    rintro e w1 ⟨rfl, hg⟩
    have hce := hg.cellEq
    have hfe := hg.frozenEq
    have hz1 : w.heap.size + 1 < w1.heap.size := by have := hg.size; simp at this; omega
    have hz0 : w.heap.size < w1.heap.size := by omega
    go_wp2_with fail
    go_region
    go_wp2_with fail
    refine bodyPost_ret (by first | (simp [*, results, Try.results26, go_sem]; rfl) | simp [*, results, Try.results26, go_sem]) rfl ?_
    exact ⟨ret_ii (by rw [HZ.out]; omega) rfl rfl, by (repeat' first | (with_reducible exact Grew.refl _) | (with_reducible assumption) | (with_reducible refine Grew.alloc ?_ _) | (with_reducible refine Grew.drew ?_) | (with_reducible refine Grew.drewN ?_ _) | (with_reducible refine Grew.setCell ?_ (by first | (simp; done) | (simp; omega) | omega) _) | (with_reducible apply Grew.trans; rotate_left; with_reducible assumption) | fail)⟩
  · have hz : unzig (RNum s err).1 = (((RNum s err).1 / 2 : Nat) : Int) := by rw [unzig, if_neg h2]
    have HZ := Lib.hid hz
    have h2' : (((RNum s err).1 : Int) % 2 == 1) = false := beq_eq_false_iff_ne.2 (by omega)
    clear hz h2
    go_enter Try.func26, Try.ntmps26
    go_wp2_with fail
    refine (refNumber_any s err _ hs).mono ?_
    rintro e w1 ⟨rfl, hg⟩
    have hce := hg.cellEq
    have hfe := hg.frozenEq
    have hz1 : w.heap.size + 1 < w1.heap.size := by have := hg.size; simp at this; omega
    have hz0 : w.heap.size < w1.heap.size := by omega
    go_wp2_with fail
    go_region
    go_wp2_with fail
    refine bodyPost_ret (by first | (simp [*, results, Try.results26, go_sem]; rfl) | simp [*, results, Try.results26, go_sem]) rfl ?_
    exact ⟨ret_ii (by rw [HZ.out]; omega) rfl rfl, by (repeat' first | (with_reducible exact Grew.refl _) | (with_reducible assumption) | (with_reducible refine Grew.alloc ?_ _) | (with_reducible refine Grew.drew ?_) | (with_reducible refine Grew.drewN ?_ _) | (with_reducible refine Grew.setCell ?_ (by first | (simp; done) | (simp; omega) | omega) _) | (with_reducible apply Grew.trans; rotate_left; with_reducible assumption) | fail)⟩
set_option maxRecDepth 100000 in
set_option maxHeartbeats 2000000 in
theorem refReadCount_any (s : ByteArray) (err most : Int) (w : World) (hs : s.size ≤ 9223372036854775807) (hm0 : -9223372036854775808 ≤ most) (hm1 : most ≤ 9223372036854775807) :
    Calls Try.prog 31 #[.agg #[.string s, .int .i64 err], .int .i64 most] w fun e w' => e = .returned (.tuple #[.int .i64 (RCnt s err most).1, .agg #[.string (RCnt s err most).2.1, .int .i64 (RCnt s err most).2.2]]) ∧ Grew w w' := by
  have hlt := RNum_lt s err
  by_cases he : (RNum s err).2.2 ≠ 0
  · have H0 := Lib.hid (RNum_zero s err he)
    have HF := Lib.hid (show RCnt s err most = (0, (RNum s err).2.1, (RNum s err).2.2) by rw [RCnt, if_pos he])
    have hb : ((RNum s err).2.2 == 0) = false := beq_eq_false_iff_ne.2 he
    have h00 : (RNum s err).1 ≤ 0 := by rw [H0.out]; omega
    clear he
    go_enter Try.func31, Try.ntmps31
    go_wp2_with fail
    refine (refNumber_any s err _ hs).mono ?_
    rintro e w1 ⟨rfl, hg⟩
    have hce := hg.cellEq
    have hfe := hg.frozenEq
    have hz1 : w.heap.size + 1 < w1.heap.size := by have := hg.size; simp at this; omega
    have hz0 : w.heap.size < w1.heap.size := by omega
    go_wp2_with fail
    go_region
    go_wp2_with fail
    refine bodyPost_ret (by first | (simp [*, results, Try.results31, go_sem]; rfl) | simp [*, results, Try.results31, go_sem]) rfl ?_
    exact ⟨by rw [HF.out] <;> exact ret_ii (by rw [H0.out] <;> rfl) rfl rfl, by (repeat' first | (with_reducible exact Grew.refl _) | (with_reducible assumption) | (with_reducible refine Grew.alloc ?_ _) | (with_reducible refine Grew.drew ?_) | (with_reducible refine Grew.drewN ?_ _) | (with_reducible refine Grew.setCell ?_ (by first | (simp; done) | (simp; omega) | omega) _) | (with_reducible apply Grew.trans; rotate_left; with_reducible assumption) | fail)⟩
  · have he0 : (RNum s err).2.2 = 0 := by omega
    have hb : ((RNum s err).2.2 == 0) = true := beq_iff_eq.2 he0
    by_cases hc : most < 0
    · have HF := Lib.hid (show RCnt s err most = (0, ⟨#[]⟩, 8) by rw [RCnt, if_neg he, if_pos (.inl hc)])
      clear he he0
      go_enter Try.func31, Try.ntmps31
      go_wp2_with fail
      refine (refNumber_any s err _ hs).mono ?_
      rintro e w1 ⟨rfl, hg⟩
      have hce := hg.cellEq
      have hfe := hg.frozenEq
      have hz1 : w.heap.size + 1 < w1.heap.size := by have := hg.size; simp at this; omega
      have hz0 : w.heap.size < w1.heap.size := by omega
      go_wp2
      refine bodyPost_ret (by first | (simp [*, results, Try.results31, go_sem]; rfl) | simp [*, results, Try.results31, go_sem]) rfl ?_
      exact ⟨by rw [HF.out] <;> exact ret_ii rfl rfl rfl, by (repeat' first | (with_reducible exact Grew.refl _) | (with_reducible assumption) | (with_reducible refine Grew.alloc ?_ _) | (with_reducible refine Grew.drew ?_) | (with_reducible refine Grew.drewN ?_ _) | (with_reducible refine Grew.setCell ?_ (by first | (simp; done) | (simp; omega) | omega) _) | (with_reducible apply Grew.trans; rotate_left; with_reducible assumption) | fail)⟩
    · by_cases hc2 : most < ((RNum s err).1 : Int)
      · have HF := Lib.hid (show RCnt s err most = (0, ⟨#[]⟩, 8) by rw [RCnt, if_neg he, if_pos (.inr hc2)])
        clear he he0
        go_enter Try.func31, Try.ntmps31
        go_wp2_with fail
        refine (refNumber_any s err _ hs).mono ?_
        rintro e w1 ⟨rfl, hg⟩
        have hce := hg.cellEq
        have hfe := hg.frozenEq
        have hz1 : w.heap.size + 1 < w1.heap.size := by have := hg.size; simp at this; omega
        have hz0 : w.heap.size < w1.heap.size := by omega
        go_wp2
        refine bodyPost_ret (by first | (simp [*, results, Try.results31, go_sem]; rfl) | simp [*, results, Try.results31, go_sem]) rfl ?_
        exact ⟨by rw [HF.out] <;> exact ret_ii rfl rfl rfl, by (repeat' first | (with_reducible exact Grew.refl _) | (with_reducible assumption) | (with_reducible refine Grew.alloc ?_ _) | (with_reducible refine Grew.drew ?_) | (with_reducible refine Grew.drewN ?_ _) | (with_reducible refine Grew.setCell ?_ (by first | (simp; done) | (simp; omega) | omega) _) | (with_reducible apply Grew.trans; rotate_left; with_reducible assumption) | fail)⟩
      · have HF := Lib.hid (show RCnt s err most = RNum s err by rw [RCnt, if_neg he, if_neg (by omega)])
        clear he he0
        go_enter Try.func31, Try.ntmps31
        go_wp2_with fail
        refine (refNumber_any s err _ hs).mono ?_
        rintro e w1 ⟨rfl, hg⟩
        have hce := hg.cellEq
        have hfe := hg.frozenEq
        have hz1 : w.heap.size + 1 < w1.heap.size := by have := hg.size; simp at this; omega
        have hz0 : w.heap.size < w1.heap.size := by omega
        go_wp2_with fail
        go_region
        go_wp2_with fail
        refine bodyPost_ret (by first | (simp [*, results, Try.results31, go_sem]; rfl) | simp [*, results, Try.results31, go_sem]) rfl ?_
        exact ⟨by rw [HF.out] <;> exact ret_ii rfl rfl rfl, by (repeat' first | (with_reducible exact Grew.refl _) | (with_reducible assumption) | (with_reducible refine Grew.alloc ?_ _) | (with_reducible refine Grew.drew ?_) | (with_reducible refine Grew.drewN ?_ _) | (with_reducible refine Grew.setCell ?_ (by first | (simp; done) | (simp; omega) | omega) _) | (with_reducible apply Grew.trans; rotate_left; with_reducible assumption) | fail)⟩
set_option maxRecDepth 100000 in
set_option maxHeartbeats 2000000 in
theorem refReadText_any (s : ByteArray) (err most : Int) (w : World) (hs : s.size ≤ 9223372036854775807) (hm0 : -9223372036854775808 ≤ most) (hm1 : most ≤ 9223372036854775807) :
    Calls Try.prog 30 #[.agg #[.string s, .int .i64 err], .int .i64 most] w fun e w' => e = .returned (.tuple #[.string (RTxt s err most).1, .agg #[.string (RTxt s err most).2.1, .int .i64 (RTxt s err most).2.2]]) ∧ Grew w w' := by
  have hsz := RCnt_size s err most
  have hlt := RCnt_lt s err most hm1
  by_cases he : (RCnt s err most).2.2 ≠ 0
  · have HF := Lib.hid (show RTxt s err most = (⟨#[]⟩, (RCnt s err most).2.1, (RCnt s err most).2.2) by rw [RTxt, if_pos he])
    have hb : ((RCnt s err most).2.2 == 0) = false := beq_eq_false_iff_ne.2 he
    have hb2 : ((RCnt s err most).2.2 != 0) = true := by rw [bne_iff_ne]; exact he
    clear he
    go_enter Try.func30, Try.ntmps30
    go_wp2_with fail
    refine (refReadCount_any s err most _ hs hm0 hm1).mono ?_
    rintro e w1 ⟨rfl, hg⟩
    have hce := hg.cellEq
    have hfe := hg.frozenEq
    have hz1 : w.heap.size + 1 < w1.heap.size := by have := hg.size; simp at this; omega
    have hz0 : w.heap.size < w1.heap.size := by omega
    go_wp2_with fail
    go_region
    go_wp2_with fail
    refine bodyPost_ret (by first | (simp [*, results, Try.results30, go_sem]; rfl) | simp [*, results, Try.results30, go_sem]) rfl ?_
    exact ⟨by rw [HF.out] <;> exact ret_si rfl rfl rfl, by (repeat' first | (with_reducible exact Grew.refl _) | (with_reducible assumption) | (with_reducible refine Grew.alloc ?_ _) | (with_reducible refine Grew.drew ?_) | (with_reducible refine Grew.drewN ?_ _) | (with_reducible refine Grew.setCell ?_ (by first | (simp; done) | (simp; omega) | omega) _) | (with_reducible apply Grew.trans; rotate_left; with_reducible assumption) | fail)⟩
  · have he0 : (RCnt s err most).2.2 = 0 := by omega
    have hb : ((RCnt s err most).2.2 == 0) = true := beq_iff_eq.2 he0
    have hb2 : ((RCnt s err most).2.2 != 0) = false := by rw [he0]; rfl
    by_cases hc : (RCnt s err most).2.1.size < (RCnt s err most).1
    · have HF := Lib.hid (show RTxt s err most = (⟨#[]⟩, ⟨#[]⟩, 11) by rw [RTxt, if_neg he, if_pos hc])
      clear he he0
      go_enter Try.func30, Try.ntmps30
      go_wp2_with fail
      refine (refReadCount_any s err most _ hs hm0 hm1).mono ?_
      rintro e w1 ⟨rfl, hg⟩
      have hce := hg.cellEq
      have hfe := hg.frozenEq
      have hz1 : w.heap.size + 1 < w1.heap.size := by have := hg.size; simp at this; omega
      have hz0 : w.heap.size < w1.heap.size := by omega
      go_wp2
      refine bodyPost_ret (by first | (simp [*, results, Try.results30, go_sem]; rfl) | simp [*, results, Try.results30, go_sem]) rfl ?_
      exact ⟨by rw [HF.out] <;> exact ret_si rfl rfl rfl, by (repeat' first | (with_reducible exact Grew.refl _) | (with_reducible assumption) | (with_reducible refine Grew.alloc ?_ _) | (with_reducible refine Grew.drew ?_) | (with_reducible refine Grew.drewN ?_ _) | (with_reducible refine Grew.setCell ?_ (by first | (simp; done) | (simp; omega) | omega) _) | (with_reducible apply Grew.trans; rotate_left; with_reducible assumption) | fail)⟩
    · have HF := Lib.hid (show RTxt s err most = ((RCnt s err most).2.1.extract 0 (RCnt s err most).1, (RCnt s err most).2.1.extract (RCnt s err most).1 (RCnt s err most).2.1.size, 0) by rw [RTxt, if_neg he, if_neg hc])
      clear he he0
      go_enter Try.func30, Try.ntmps30
      go_wp2_with fail
      refine (refReadCount_any s err most _ hs hm0 hm1).mono ?_
      rintro e w1 ⟨rfl, hg⟩
      have hce := hg.cellEq
      have hfe := hg.frozenEq
      have hz1 : w.heap.size + 1 < w1.heap.size := by have := hg.size; simp at this; omega
      have hz0 : w.heap.size < w1.heap.size := by omega
      go_wp2_with fail
      go_region
      go_wp2_with fail
      refine bodyPost_ret (by first | (simp [*, results, Try.results30, go_sem]; rfl) | simp [*, results, Try.results30, go_sem]) rfl ?_
      exact ⟨by rw [HF.out] <;> exact ret_si rfl rfl rfl, by (repeat' first | (with_reducible exact Grew.refl _) | (with_reducible assumption) | (with_reducible refine Grew.alloc ?_ _) | (with_reducible refine Grew.drew ?_) | (with_reducible refine Grew.drewN ?_ _) | (with_reducible refine Grew.setCell ?_ (by first | (simp; done) | (simp; omega) | omega) _) | (with_reducible apply Grew.trans; rotate_left; with_reducible assumption) | fail)⟩
set_option maxRecDepth 100000 in
set_option maxHeartbeats 2000000 in
theorem refReadBool_any (s : ByteArray) (err : Int) (w : World) (hs : s.size ≤ 9223372036854775807) :
    Calls Try.prog 28 #[.agg #[.string s, .int .i64 err]] w fun e w' => e = .returned (.tuple #[.bool (RBool s err).1, .agg #[.string (RBool s err).2.1, .int .i64 (RBool s err).2.2]]) ∧ Grew w w' := by
  by_cases he : err ≠ 0
  · have HF := Lib.hid (show RBool s err = (false, s, err) by rw [RBool, if_pos he])
    go_enter Try.func28, Try.ntmps28
    go_wp2
    go_region
    go_wp2
    refine bodyPost_ret (by first | (simp [*, results, Try.results28, go_sem]; rfl) | simp [*, results, Try.results28, go_sem]) rfl ?_
    exact ⟨by rw [HF.out] <;> exact ret_bi rfl rfl rfl, by (repeat' first | (with_reducible exact Grew.refl _) | (with_reducible assumption) | (with_reducible refine Grew.alloc ?_ _) | (with_reducible refine Grew.drew ?_) | (with_reducible refine Grew.drewN ?_ _) | (with_reducible refine Grew.setCell ?_ (by first | (simp; done) | (simp; omega) | omega) _) | (with_reducible apply Grew.trans; rotate_left; with_reducible assumption) | fail)⟩
  · obtain rfl : err = 0 := by omega
    by_cases h0 : s.size = 0
    · have HF := Lib.hid (show RBool s 0 = (false, ⟨#[]⟩, 11) by rw [RBool, if_neg he, dif_pos h0])
      have hb : ((s.size : Int) == 0) = true := beq_iff_eq.2 (by omega)
      have hb2 : s.size ≤ 0 := by omega
      clear h0 he
      go_enter Try.func28, Try.ntmps28
      go_wp2
      refine bodyPost_ret (by first | (simp [*, results, Try.results28, go_sem]; rfl) | simp [*, results, Try.results28, go_sem]) rfl ?_
      exact ⟨by rw [HF.out] <;> exact ret_bi rfl rfl rfl, by (repeat' first | (with_reducible exact Grew.refl _) | (with_reducible assumption) | (with_reducible refine Grew.alloc ?_ _) | (with_reducible refine Grew.drew ?_) | (with_reducible refine Grew.drewN ?_ _) | (with_reducible refine Grew.setCell ?_ (by first | (simp; done) | (simp; omega) | omega) _) | (with_reducible apply Grew.trans; rotate_left; with_reducible assumption) | fail)⟩
    · have hpos : 0 < s.size := by omega
      have hb : ((s.size : Int) == 0) = false := beq_eq_false_iff_ne.2 (by omega)
      have hbl := s[0].toNat_lt
      by_cases h1 : 1 < s[0].toNat
      · have HF := Lib.hid (show RBool s 0 = (false, ⟨#[]⟩, 11) by rw [RBool, if_neg he, dif_neg h0, if_pos h1])
        clear he
        go_enter Try.func28, Try.ntmps28
        go_wp2
        refine bodyPost_ret (by first | (simp [*, results, Try.results28, go_sem]; rfl) | simp [*, results, Try.results28, go_sem]) rfl ?_
        exact ⟨by rw [HF.out] <;> exact ret_bi rfl rfl rfl, by (repeat' first | (with_reducible exact Grew.refl _) | (with_reducible assumption) | (with_reducible refine Grew.alloc ?_ _) | (with_reducible refine Grew.drew ?_) | (with_reducible refine Grew.drewN ?_ _) | (with_reducible refine Grew.setCell ?_ (by first | (simp; done) | (simp; omega) | omega) _) | (with_reducible apply Grew.trans; rotate_left; with_reducible assumption) | fail)⟩
      · have HF := Lib.hid (show RBool s 0 = (decide (s[0].toNat = 1), s.extract 1 s.size, 0) by rw [RBool, if_neg he, dif_neg h0, if_neg h1])
        by_cases h2 : s[0].toNat = 1
        · have HD := Lib.hid (show decide (s[0].toNat = 1) = true by simpa using h2)
          have hb : ((s[0].toNat : Int) == 1) = true := by rw [h2]; rfl
          clear h2 he
          go_enter Try.func28, Try.ntmps28
          go_wp2
          go_region
          go_wp2
          refine bodyPost_ret (by first | (simp [*, results, Try.results28, go_sem]; rfl) | simp [*, results, Try.results28, go_sem]) rfl ?_
          exact ⟨by rw [HF.out] <;> exact ret_bi (by rw [HD.out]) rfl rfl, by (repeat' first | (with_reducible exact Grew.refl _) | (with_reducible assumption) | (with_reducible refine Grew.alloc ?_ _) | (with_reducible refine Grew.drew ?_) | (with_reducible refine Grew.drewN ?_ _) | (with_reducible refine Grew.setCell ?_ (by first | (simp; done) | (simp; omega) | omega) _) | (with_reducible apply Grew.trans; rotate_left; with_reducible assumption) | fail)⟩
        · have HD := Lib.hid (show decide (s[0].toNat = 1) = false by simpa using h2)
          have hb : ((s[0].toNat : Int) == 1) = false := beq_eq_false_iff_ne.2 (by omega)
          clear h2 he
          go_enter Try.func28, Try.ntmps28
          go_wp2
          go_region
          go_wp2
          refine bodyPost_ret (by first | (simp [*, results, Try.results28, go_sem]; rfl) | simp [*, results, Try.results28, go_sem]) rfl ?_
          exact ⟨by rw [HF.out] <;> exact ret_bi (by rw [HD.out]) rfl rfl, by (repeat' first | (with_reducible exact Grew.refl _) | (with_reducible assumption) | (with_reducible refine Grew.alloc ?_ _) | (with_reducible refine Grew.drew ?_) | (with_reducible refine Grew.drewN ?_ _) | (with_reducible refine Grew.setCell ?_ (by first | (simp; done) | (simp; omega) | omega) _) | (with_reducible apply Grew.trans; rotate_left; with_reducible assumption) | fail)⟩
set_option maxRecDepth 100000 in
set_option maxHeartbeats 2000000 in
theorem refEnd_any (s : ByteArray) (err : Int) (w : World) (hs : s.size ≤ 9223372036854775807) :
    Calls Try.prog 34 #[.agg #[.string s, .int .i64 err]] w fun e w' => e = .returned (.int .i64 (REnd s err)) ∧ Grew w w' := by
  unfold REnd
  by_cases he : err = 0
  · subst he
    by_cases h0 : 0 < s.size
    · rw [if_pos ⟨rfl, h0⟩]
      go_enter Try.func34, Try.ntmps34
      go_wp2
      refine bodyPost_ret (by first | (simp [*, results, Try.results34, go_sem]; rfl) | simp [*, results, Try.results34, go_sem]) rfl ?_
      exact ⟨rfl, by (repeat' first | (with_reducible exact Grew.refl _) | (with_reducible assumption) | (with_reducible refine Grew.alloc ?_ _) | (with_reducible refine Grew.drew ?_) | (with_reducible refine Grew.drewN ?_ _) | (with_reducible refine Grew.setCell ?_ (by first | (simp; done) | (simp; omega) | omega) _) | (with_reducible apply Grew.trans; rotate_left; with_reducible assumption) | fail)⟩
    · rw [if_neg (fun h => h0 h.2)]
      have h0' : s.size ≤ 0 := by omega
      go_enter Try.func34, Try.ntmps34
      go_wp2
      refine bodyPost_ret (by first | (simp [*, results, Try.results34, go_sem]; rfl) | simp [*, results, Try.results34, go_sem]) rfl ?_
      exact ⟨rfl, by (repeat' first | (with_reducible exact Grew.refl _) | (with_reducible assumption) | (with_reducible refine Grew.alloc ?_ _) | (with_reducible refine Grew.drew ?_) | (with_reducible refine Grew.drewN ?_ _) | (with_reducible refine Grew.setCell ?_ (by first | (simp; done) | (simp; omega) | omega) _) | (with_reducible apply Grew.trans; rotate_left; with_reducible assumption) | fail)⟩
  · rw [if_neg (fun h => he h.1)]
    have hb : (err == 0) = false := beq_eq_false_iff_ne.2 he
    go_enter Try.func34, Try.ntmps34
    go_wp2
    refine bodyPost_ret (by first | (simp [*, results, Try.results34, go_sem]; rfl) | simp [*, results, Try.results34, go_sem]) rfl ?_
    exact ⟨rfl, by (repeat' first | (with_reducible exact Grew.refl _) | (with_reducible assumption) | (with_reducible refine Grew.alloc ?_ _) | (with_reducible refine Grew.drew ?_) | (with_reducible refine Grew.drewN ?_ _) | (with_reducible refine Grew.setCell ?_ (by first | (simp; done) | (simp; omega) | omega) _) | (with_reducible apply Grew.trans; rotate_left; with_reducible assumption) | fail)⟩
end Go.Proofs.Ytfoklokflooapaa
