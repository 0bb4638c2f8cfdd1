/- The reference's readers, built on ReadNumber. -/
import Derived.Test.YtkiciojipiakoaaWireH
namespace Go.Proofs.Ytkiciojipiakoaa
set_option linter.unusedVariables false
set_option linter.unusedSimpArgs false
set_option linter.unusedSectionVars false
open Go.RowKit

theorem ret_ii {k : IntKind} {a a' b b' : Int} {s s' : ByteArray} (h : a = a') (h1 : s = s') (h2 : b = b') : Ending.returned (.tuple #[.int k a, .agg #[.string s, .int .i64 b]]) = .returned (.tuple #[.int k a', .agg #[.string s', .int .i64 b']]) := by rw [h, h1, h2]
theorem ret_si {a a' : ByteArray} {b b' : Int} {s s' : ByteArray} (h : a = a') (h1 : s = s') (h2 : b = b') : Ending.returned (.tuple #[.string a, .agg #[.string s, .int .i64 b]]) = .returned (.tuple #[.string a', .agg #[.string s', .int .i64 b']]) := by rw [h, h1, h2]
theorem ret_bi {a a' : Bool} {b b' : Int} {s s' : ByteArray} (h : a = a') (h1 : s = s') (h2 : b = b') : Ending.returned (.tuple #[.bool a, .agg #[.string s, .int .i64 b]]) = .returned (.tuple #[.bool a', .agg #[.string s', .int .i64 b']]) := by rw [h, h1, h2]

set_option maxRecDepth 100000 in
set_option maxHeartbeats 2000000 in
theorem refReadCount_any (s : ByteArray) (err most : Int) (w : World) (hs : s.size ≤ 9223372036854775807) (hm0 : -9223372036854775808 ≤ most) (hm1 : most ≤ 9223372036854775807) :
    Calls Try.prog 56 #[.agg #[.string s, .int .i64 err], .int .i64 most] w fun e w' => e = .returned (.tuple #[.int .i64 (RCnt s err most).1, .agg #[.string (RCnt s err most).2.1, .int .i64 (RCnt s err most).2.2]]) ∧ Grew w w' := by
  have hlt := RNum_lt s err
  by_cases he : (RNum s err).2.2 ≠ 0
  · have H0 := Lib.hid (RNum_zero s err he)
    have HF := Lib.hid (show RCnt s err most = (0, (RNum s err).2.1, (RNum s err).2.2) by rw [RCnt, if_pos he])
    have hb : ((RNum s err).2.2 == 0) = false := beq_eq_false_iff_ne.2 he
    have h00 : (RNum s err).1 ≤ 0 := by rw [H0.out]; omega
    clear he
    go_enter Try.func56, Try.ntmps56
    go_wp2_with fail
    refine (refNumber_any s err _ hs).mono ?_
    rintro e w1 ⟨rfl, hg⟩
    have hce := hg.cellEq
    have hfe := hg.frozenEq
    have hz1 : w.heap.size + 1 < w1.heap.size := by have := hg.size; simp at this; omega
    have hz0 : w.heap.size < w1.heap.size := by omega
    go_wp2_with fail
    go_region
    go_wp2_with fail
    refine bodyPost_ret (by first | (simp [*, results, Try.results56, go_sem]; rfl) | simp [*, results, Try.results56, go_sem]) rfl ?_
    exact ⟨by rw [HF.out] <;> exact ret_ii (by rw [H0.out] <;> rfl) rfl rfl, by (repeat' first | (with_reducible exact Grew.refl _) | (with_reducible assumption) | (with_reducible refine Grew.alloc ?_ _) | (with_reducible refine Grew.drew ?_) | (with_reducible refine Grew.drewN ?_ _) | (with_reducible refine Grew.setRow ?_ (by first | (simp; done) | (simp; omega) | omega) _) | (with_reducible refine Grew.setCell ?_ (by first | (simp; done) | (simp; omega) | omega) _) | ((with_reducible apply Grew.trans); rotate_left; (with_reducible assumption)) | ((with_reducible apply Grew.turn); rotate_left; (with_reducible assumption); (focus (intro i hi; first | omega | (simp at hi; omega)))) | fail)⟩
  · have he0 : (RNum s err).2.2 = 0 := by omega
    have hb : ((RNum s err).2.2 == 0) = true := beq_iff_eq.2 he0
    by_cases hc : most < 0
    · have HF := Lib.hid (show RCnt s err most = (0, ⟨#[]⟩, 8) by rw [RCnt, if_neg he, if_pos (.inl hc)])
      clear he he0
      go_enter Try.func56, Try.ntmps56
      go_wp2_with fail
      refine (refNumber_any s err _ hs).mono ?_
      rintro e w1 ⟨rfl, hg⟩
      have hce := hg.cellEq
      have hfe := hg.frozenEq
      have hz1 : w.heap.size + 1 < w1.heap.size := by have := hg.size; simp at this; omega
      have hz0 : w.heap.size < w1.heap.size := by omega
      go_wp2
      refine bodyPost_ret (by first | (simp [*, results, Try.results56, go_sem]; rfl) | simp [*, results, Try.results56, go_sem]) rfl ?_
      exact ⟨by rw [HF.out] <;> exact ret_ii rfl rfl rfl, by (repeat' first | (with_reducible exact Grew.refl _) | (with_reducible assumption) | (with_reducible refine Grew.alloc ?_ _) | (with_reducible refine Grew.drew ?_) | (with_reducible refine Grew.drewN ?_ _) | (with_reducible refine Grew.setRow ?_ (by first | (simp; done) | (simp; omega) | omega) _) | (with_reducible refine Grew.setCell ?_ (by first | (simp; done) | (simp; omega) | omega) _) | ((with_reducible apply Grew.trans); rotate_left; (with_reducible assumption)) | ((with_reducible apply Grew.turn); rotate_left; (with_reducible assumption); (focus (intro i hi; first | omega | (simp at hi; omega)))) | fail)⟩
    · by_cases hc2 : most < ((RNum s err).1 : Int)
      · have HF := Lib.hid (show RCnt s err most = (0, ⟨#[]⟩, 8) by rw [RCnt, if_neg he, if_pos (.inr hc2)])
        clear he he0
        go_enter Try.func56, Try.ntmps56
        go_wp2_with fail
        refine (refNumber_any s err _ hs).mono ?_
        rintro e w1 ⟨rfl, hg⟩
        have hce := hg.cellEq
        have hfe := hg.frozenEq
        have hz1 : w.heap.size + 1 < w1.heap.size := by have := hg.size; simp at this; omega
        have hz0 : w.heap.size < w1.heap.size := by omega
        go_wp2
        refine bodyPost_ret (by first | (simp [*, results, Try.results56, go_sem]; rfl) | simp [*, results, Try.results56, go_sem]) rfl ?_
        exact ⟨by rw [HF.out] <;> exact ret_ii rfl rfl rfl, by (repeat' first | (with_reducible exact Grew.refl _) | (with_reducible assumption) | (with_reducible refine Grew.alloc ?_ _) | (with_reducible refine Grew.drew ?_) | (with_reducible refine Grew.drewN ?_ _) | (with_reducible refine Grew.setRow ?_ (by first | (simp; done) | (simp; omega) | omega) _) | (with_reducible refine Grew.setCell ?_ (by first | (simp; done) | (simp; omega) | omega) _) | ((with_reducible apply Grew.trans); rotate_left; (with_reducible assumption)) | ((with_reducible apply Grew.turn); rotate_left; (with_reducible assumption); (focus (intro i hi; first | omega | (simp at hi; omega)))) | fail)⟩
      · have HF := Lib.hid (show RCnt s err most = RNum s err by rw [RCnt, if_neg he, if_neg (by omega)])
        clear he he0
        go_enter Try.func56, Try.ntmps56
        go_wp2_with fail
        refine (refNumber_any s err _ hs).mono ?_
        rintro e w1 ⟨rfl, hg⟩
        have hce := hg.cellEq
        have hfe := hg.frozenEq
        have hz1 : w.heap.size + 1 < w1.heap.size := by have := hg.size; simp at this; omega
        have hz0 : w.heap.size < w1.heap.size := by omega
        go_wp2_with fail
        go_region
        go_wp2_with fail
        refine bodyPost_ret (by first | (simp [*, results, Try.results56, go_sem]; rfl) | simp [*, results, Try.results56, go_sem]) rfl ?_
        exact ⟨by rw [HF.out] <;> exact ret_ii rfl rfl rfl, by (repeat' first | (with_reducible exact Grew.refl _) | (with_reducible assumption) | (with_reducible refine Grew.alloc ?_ _) | (with_reducible refine Grew.drew ?_) | (with_reducible refine Grew.drewN ?_ _) | (with_reducible refine Grew.setRow ?_ (by first | (simp; done) | (simp; omega) | omega) _) | (with_reducible refine Grew.setCell ?_ (by first | (simp; done) | (simp; omega) | omega) _) | ((with_reducible apply Grew.trans); rotate_left; (with_reducible assumption)) | ((with_reducible apply Grew.turn); rotate_left; (with_reducible assumption); (focus (intro i hi; first | omega | (simp at hi; omega)))) | fail)⟩
set_option maxRecDepth 100000 in
set_option maxHeartbeats 2000000 in
theorem refReadText_any (s : ByteArray) (err most : Int) (w : World) (hs : s.size ≤ 9223372036854775807) (hm0 : -9223372036854775808 ≤ most) (hm1 : most ≤ 9223372036854775807) :
    Calls Try.prog 57 #[.agg #[.string s, .int .i64 err], .int .i64 most] w fun e w' => e = .returned (.tuple #[.string (RTxt s err most).1, .agg #[.string (RTxt s err most).2.1, .int .i64 (RTxt s err most).2.2]]) ∧ Grew w w' := by
  have hsz := RCnt_size s err most
  have hlt := RCnt_lt s err most hm1
  by_cases he : (RCnt s err most).2.2 ≠ 0
  · have HF := Lib.hid (show RTxt s err most = (⟨#[]⟩, (RCnt s err most).2.1, (RCnt s err most).2.2) by rw [RTxt, if_pos he])
    have hb : ((RCnt s err most).2.2 == 0) = false := beq_eq_false_iff_ne.2 he
    have hb2 : ((RCnt s err most).2.2 != 0) = true := by rw [bne_iff_ne]; exact he
    clear he
    go_enter Try.func57, Try.ntmps57
    go_wp2_with fail
    refine (refReadCount_any s err most _ hs hm0 hm1).mono ?_
    rintro e w1 ⟨rfl, hg⟩
    have hce := hg.cellEq
    have hfe := hg.frozenEq
    have hz1 : w.heap.size + 1 < w1.heap.size := by have := hg.size; simp at this; omega
    have hz0 : w.heap.size < w1.heap.size := by omega
    go_wp2_with fail
    go_region
    go_wp2_with fail
    refine bodyPost_ret (by first | (simp [*, results, Try.results57, go_sem]; rfl) | simp [*, results, Try.results57, go_sem]) rfl ?_
    exact ⟨by rw [HF.out] <;> exact ret_si rfl rfl rfl, by (repeat' first | (with_reducible exact Grew.refl _) | (with_reducible assumption) | (with_reducible refine Grew.alloc ?_ _) | (with_reducible refine Grew.drew ?_) | (with_reducible refine Grew.drewN ?_ _) | (with_reducible refine Grew.setRow ?_ (by first | (simp; done) | (simp; omega) | omega) _) | (with_reducible refine Grew.setCell ?_ (by first | (simp; done) | (simp; omega) | omega) _) | ((with_reducible apply Grew.trans); rotate_left; (with_reducible assumption)) | ((with_reducible apply Grew.turn); rotate_left; (with_reducible assumption); (focus (intro i hi; first | omega | (simp at hi; omega)))) | fail)⟩
  · have he0 : (RCnt s err most).2.2 = 0 := by omega
    have hb : ((RCnt s err most).2.2 == 0) = true := beq_iff_eq.2 he0
    have hb2 : ((RCnt s err most).2.2 != 0) = false := by rw [he0]; rfl
    by_cases hc : (RCnt s err most).2.1.size < (RCnt s err most).1
    · have HF := Lib.hid (show RTxt s err most = (⟨#[]⟩, ⟨#[]⟩, 11) by rw [RTxt, if_neg he, if_pos hc])
      clear he he0
      go_enter Try.func57, Try.ntmps57
      go_wp2_with fail
      refine (refReadCount_any s err most _ hs hm0 hm1).mono ?_
      rintro e w1 ⟨rfl, hg⟩
      have hce := hg.cellEq
      have hfe := hg.frozenEq
      have hz1 : w.heap.size + 1 < w1.heap.size := by have := hg.size; simp at this; omega
      have hz0 : w.heap.size < w1.heap.size := by omega
      go_wp2
      refine bodyPost_ret (by first | (simp [*, results, Try.results57, go_sem]; rfl) | simp [*, results, Try.results57, go_sem]) rfl ?_
      exact ⟨by rw [HF.out] <;> exact ret_si rfl rfl rfl, by (repeat' first | (with_reducible exact Grew.refl _) | (with_reducible assumption) | (with_reducible refine Grew.alloc ?_ _) | (with_reducible refine Grew.drew ?_) | (with_reducible refine Grew.drewN ?_ _) | (with_reducible refine Grew.setRow ?_ (by first | (simp; done) | (simp; omega) | omega) _) | (with_reducible refine Grew.setCell ?_ (by first | (simp; done) | (simp; omega) | omega) _) | ((with_reducible apply Grew.trans); rotate_left; (with_reducible assumption)) | ((with_reducible apply Grew.turn); rotate_left; (with_reducible assumption); (focus (intro i hi; first | omega | (simp at hi; omega)))) | fail)⟩
    · have HF := Lib.hid (show RTxt s err most = ((RCnt s err most).2.1.extract 0 (RCnt s err most).1, (RCnt s err most).2.1.extract (RCnt s err most).1 (RCnt s err most).2.1.size, 0) by rw [RTxt, if_neg he, if_neg hc])
      clear he he0
      go_enter Try.func57, Try.ntmps57
      go_wp2_with fail
      refine (refReadCount_any s err most _ hs hm0 hm1).mono ?_
      rintro e w1 ⟨rfl, hg⟩
      have hce := hg.cellEq
      have hfe := hg.frozenEq
      have hz1 : w.heap.size + 1 < w1.heap.size := by have := hg.size; simp at this; omega
      have hz0 : w.heap.size < w1.heap.size := by omega
      go_wp2_with fail
      go_region
      go_wp2_with fail
      refine bodyPost_ret (by first | (simp [*, results, Try.results57, go_sem]; rfl) | simp [*, results, Try.results57, go_sem]) rfl ?_
      exact ⟨by rw [HF.out] <;> exact ret_si rfl rfl rfl, by (repeat' first | (with_reducible exact Grew.refl _) | (with_reducible assumption) | (with_reducible refine Grew.alloc ?_ _) | (with_reducible refine Grew.drew ?_) | (with_reducible refine Grew.drewN ?_ _) | (with_reducible refine Grew.setRow ?_ (by first | (simp; done) | (simp; omega) | omega) _) | (with_reducible refine Grew.setCell ?_ (by first | (simp; done) | (simp; omega) | omega) _) | ((with_reducible apply Grew.trans); rotate_left; (with_reducible assumption)) | ((with_reducible apply Grew.turn); rotate_left; (with_reducible assumption); (focus (intro i hi; first | omega | (simp at hi; omega)))) | fail)⟩
end Go.Proofs.Ytkiciojipiakoaa
