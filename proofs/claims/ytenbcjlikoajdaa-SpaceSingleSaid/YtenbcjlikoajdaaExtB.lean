/- The reference's holds and clip. -/
import Derived.Test.YtenbcjlikoajdaaExtA
namespace Go.Proofs.Ytenbcjlikoajdaa
set_option linter.unusedVariables false
set_option linter.unusedSimpArgs false
set_option linter.unusedSectionVars false
open Go.RowKit
theorem clipS_zero (r : Int × Int) (h : (clipS r).2 = 0) : (clipS r).1 = 0 := by
  unfold clipS at *
  split at h
  · rename_i h1; rw [if_pos h1]
  · rename_i h1; rw [if_neg h1]
    split at h
    · rename_i h2; rw [if_pos h2]; repeat' split
      all_goals rfl
    · rename_i h2; rw [if_neg h2]
      split at h
      · simp only [] at h; omega
      · simp only [] at h; omega
def inS (r : Nat × Nat) (t : Nat) : Bool := decide (r.1 ≤ t ∧ t < r.1 + r.2)
theorem ret_bool {a b : Bool} (h : a = b) : Ending.returned (.bool a) = .returned (.bool b) := by rw [h]
theorem clipS_in (f c : Int) (t : Nat) (ht : t < 128) : inS (clipS (f, c)) t = decide ((f < 0 ∧ 1 ≤ c ∧ (t : Int) < f + c) ∨ (0 ≤ f ∧ 1 ≤ c ∧ f ≤ t ∧ (t : Int) - f < c)) := by
  unfold inS clipS
  rw [decide_eq_decide]
  repeat' split
  all_goals (simp only [] at *; omega)
set_option maxRecDepth 100000 in
set_option maxHeartbeats 1000000 in
theorem holds_any (f c : Int) (t : Nat) (w : World) (ht : t < 128) (f0 : -9223372036854775808 ≤ f) (f1 : f ≤ 9223372036854775807) (c0 : -9223372036854775808 ≤ c) (c1 : c ≤ 9223372036854775807) :
    Calls Try.prog 72 #[.agg #[.int .i64 f, .int .i64 c], .int .i64 (t : Int)] w fun e w' => e = .returned (.bool (inS (clipS (f, c)) t)) ∧ Grew w w' := by
  rw [clipS_in f c t ht]
  by_cases hy : f < 0 ∧ c < 1
  · have hd : decide ((f < 0 ∧ 1 ≤ c ∧ (t : Int) < f + c) ∨ (0 ≤ f ∧ 1 ≤ c ∧ f ≤ t ∧ (t : Int) - f < c)) = true ∨ decide ((f < 0 ∧ 1 ≤ c ∧ (t : Int) < f + c) ∨ (0 ≤ f ∧ 1 ≤ c ∧ f ≤ t ∧ (t : Int) - f < c)) = false := by
      cases decide ((f < 0 ∧ 1 ≤ c ∧ (t : Int) < f + c) ∨ (0 ≤ f ∧ 1 ≤ c ∧ f ≤ t ∧ (t : Int) - f < c)) <;> simp
    rcases hd with hd | hd
    all_goals
      rw [hd]
      first | rw [decide_eq_true_eq] at hd | rw [decide_eq_false_iff_not] at hd
    all_goals
      first
      | (exfalso; omega)
      | (clear hd
         obtain ⟨hy1, hy⟩ := hy
         try obtain ⟨hy2, hy⟩ := hy
         try obtain ⟨hy3, hy⟩ := hy
         go_enter Try.func72, Try.ntmps72
         go_wp2
         go_ret
         exact ⟨ret_bool (by first | rfl | (simp; omega)), by (repeat' first | (with_reducible exact Grew.refl _) | (with_reducible assumption) | (with_reducible refine Grew.alloc ?_ _) | (with_reducible refine Grew.drew ?_) | (with_reducible refine Grew.drewN ?_ _) | (with_reducible refine Grew.setRow ?_ (by first | (simp; done) | (simp; omega) | omega) _) | (with_reducible refine Grew.setCell ?_ (by first | (simp; done) | (simp; omega) | omega) _) | ((with_reducible apply Grew.trans); rotate_left; (with_reducible assumption)) | ((with_reducible apply Grew.turn); rotate_left; (with_reducible assumption); (focus (intro i hi; first | omega | (simp at hi; omega)))) | fail)⟩)
  by_cases hy : f < 0 ∧ 1 ≤ c ∧ (t : Int) < f + c
  · have hd : decide ((f < 0 ∧ 1 ≤ c ∧ (t : Int) < f + c) ∨ (0 ≤ f ∧ 1 ≤ c ∧ f ≤ t ∧ (t : Int) - f < c)) = true ∨ decide ((f < 0 ∧ 1 ≤ c ∧ (t : Int) < f + c) ∨ (0 ≤ f ∧ 1 ≤ c ∧ f ≤ t ∧ (t : Int) - f < c)) = false := by
      cases decide ((f < 0 ∧ 1 ≤ c ∧ (t : Int) < f + c) ∨ (0 ≤ f ∧ 1 ≤ c ∧ f ≤ t ∧ (t : Int) - f < c)) <;> simp
    rcases hd with hd | hd
    all_goals
      rw [hd]
      first | rw [decide_eq_true_eq] at hd | rw [decide_eq_false_iff_not] at hd
    all_goals
      first
      | (exfalso; omega)
      | (clear hd
         obtain ⟨hy1, hy⟩ := hy
         try obtain ⟨hy2, hy⟩ := hy
         try obtain ⟨hy3, hy⟩ := hy
         go_enter Try.func72, Try.ntmps72
         go_wp2
         go_ret
         exact ⟨ret_bool (by first | rfl | (simp; omega)), by (repeat' first | (with_reducible exact Grew.refl _) | (with_reducible assumption) | (with_reducible refine Grew.alloc ?_ _) | (with_reducible refine Grew.drew ?_) | (with_reducible refine Grew.drewN ?_ _) | (with_reducible refine Grew.setRow ?_ (by first | (simp; done) | (simp; omega) | omega) _) | (with_reducible refine Grew.setCell ?_ (by first | (simp; done) | (simp; omega) | omega) _) | ((with_reducible apply Grew.trans); rotate_left; (with_reducible assumption)) | ((with_reducible apply Grew.turn); rotate_left; (with_reducible assumption); (focus (intro i hi; first | omega | (simp at hi; omega)))) | fail)⟩)
  by_cases hy : f < 0 ∧ 1 ≤ c ∧ f + c ≤ (t : Int)
  · have hd : decide ((f < 0 ∧ 1 ≤ c ∧ (t : Int) < f + c) ∨ (0 ≤ f ∧ 1 ≤ c ∧ f ≤ t ∧ (t : Int) - f < c)) = true ∨ decide ((f < 0 ∧ 1 ≤ c ∧ (t : Int) < f + c) ∨ (0 ≤ f ∧ 1 ≤ c ∧ f ≤ t ∧ (t : Int) - f < c)) = false := by
      cases decide ((f < 0 ∧ 1 ≤ c ∧ (t : Int) < f + c) ∨ (0 ≤ f ∧ 1 ≤ c ∧ f ≤ t ∧ (t : Int) - f < c)) <;> simp
    rcases hd with hd | hd
    all_goals
      rw [hd]
      first | rw [decide_eq_true_eq] at hd | rw [decide_eq_false_iff_not] at hd
    all_goals
      first
      | (exfalso; omega)
      | (clear hd
         obtain ⟨hy1, hy⟩ := hy
         try obtain ⟨hy2, hy⟩ := hy
         try obtain ⟨hy3, hy⟩ := hy
         go_enter Try.func72, Try.ntmps72
         go_wp2
         go_ret
         exact ⟨ret_bool (by first | rfl | (simp; omega)), by (repeat' first | (with_reducible exact Grew.refl _) | (with_reducible assumption) | (with_reducible refine Grew.alloc ?_ _) | (with_reducible refine Grew.drew ?_) | (with_reducible refine Grew.drewN ?_ _) | (with_reducible refine Grew.setRow ?_ (by first | (simp; done) | (simp; omega) | omega) _) | (with_reducible refine Grew.setCell ?_ (by first | (simp; done) | (simp; omega) | omega) _) | ((with_reducible apply Grew.trans); rotate_left; (with_reducible assumption)) | ((with_reducible apply Grew.turn); rotate_left; (with_reducible assumption); (focus (intro i hi; first | omega | (simp at hi; omega)))) | fail)⟩)
  by_cases hy : 0 ≤ f ∧ c < 1
  · have hd : decide ((f < 0 ∧ 1 ≤ c ∧ (t : Int) < f + c) ∨ (0 ≤ f ∧ 1 ≤ c ∧ f ≤ t ∧ (t : Int) - f < c)) = true ∨ decide ((f < 0 ∧ 1 ≤ c ∧ (t : Int) < f + c) ∨ (0 ≤ f ∧ 1 ≤ c ∧ f ≤ t ∧ (t : Int) - f < c)) = false := by
      cases decide ((f < 0 ∧ 1 ≤ c ∧ (t : Int) < f + c) ∨ (0 ≤ f ∧ 1 ≤ c ∧ f ≤ t ∧ (t : Int) - f < c)) <;> simp
    rcases hd with hd | hd
    all_goals
      rw [hd]
      first | rw [decide_eq_true_eq] at hd | rw [decide_eq_false_iff_not] at hd
    all_goals
      first
      | (exfalso; omega)
      | (clear hd
         obtain ⟨hy1, hy⟩ := hy
         try obtain ⟨hy2, hy⟩ := hy
         try obtain ⟨hy3, hy⟩ := hy
         go_enter Try.func72, Try.ntmps72
         go_wp2
         go_ret
         exact ⟨ret_bool (by first | rfl | (simp; omega)), by (repeat' first | (with_reducible exact Grew.refl _) | (with_reducible assumption) | (with_reducible refine Grew.alloc ?_ _) | (with_reducible refine Grew.drew ?_) | (with_reducible refine Grew.drewN ?_ _) | (with_reducible refine Grew.setRow ?_ (by first | (simp; done) | (simp; omega) | omega) _) | (with_reducible refine Grew.setCell ?_ (by first | (simp; done) | (simp; omega) | omega) _) | ((with_reducible apply Grew.trans); rotate_left; (with_reducible assumption)) | ((with_reducible apply Grew.turn); rotate_left; (with_reducible assumption); (focus (intro i hi; first | omega | (simp at hi; omega)))) | fail)⟩)
  by_cases hy : 0 ≤ f ∧ 1 ≤ c ∧ (t : Int) < f
  · have hd : decide ((f < 0 ∧ 1 ≤ c ∧ (t : Int) < f + c) ∨ (0 ≤ f ∧ 1 ≤ c ∧ f ≤ t ∧ (t : Int) - f < c)) = true ∨ decide ((f < 0 ∧ 1 ≤ c ∧ (t : Int) < f + c) ∨ (0 ≤ f ∧ 1 ≤ c ∧ f ≤ t ∧ (t : Int) - f < c)) = false := by
      cases decide ((f < 0 ∧ 1 ≤ c ∧ (t : Int) < f + c) ∨ (0 ≤ f ∧ 1 ≤ c ∧ f ≤ t ∧ (t : Int) - f < c)) <;> simp
    rcases hd with hd | hd
    all_goals
      rw [hd]
      first | rw [decide_eq_true_eq] at hd | rw [decide_eq_false_iff_not] at hd
    all_goals
      first
      | (exfalso; omega)
      | (clear hd
         obtain ⟨hy1, hy⟩ := hy
         try obtain ⟨hy2, hy⟩ := hy
         try obtain ⟨hy3, hy⟩ := hy
         go_enter Try.func72, Try.ntmps72
         go_wp2
         go_ret
         exact ⟨ret_bool (by first | rfl | (simp; omega)), by (repeat' first | (with_reducible exact Grew.refl _) | (with_reducible assumption) | (with_reducible refine Grew.alloc ?_ _) | (with_reducible refine Grew.drew ?_) | (with_reducible refine Grew.drewN ?_ _) | (with_reducible refine Grew.setRow ?_ (by first | (simp; done) | (simp; omega) | omega) _) | (with_reducible refine Grew.setCell ?_ (by first | (simp; done) | (simp; omega) | omega) _) | ((with_reducible apply Grew.trans); rotate_left; (with_reducible assumption)) | ((with_reducible apply Grew.turn); rotate_left; (with_reducible assumption); (focus (intro i hi; first | omega | (simp at hi; omega)))) | fail)⟩)
  by_cases hy : 0 ≤ f ∧ 1 ≤ c ∧ f ≤ (t : Int) ∧ (t : Int) - f < c
  · have hd : decide ((f < 0 ∧ 1 ≤ c ∧ (t : Int) < f + c) ∨ (0 ≤ f ∧ 1 ≤ c ∧ f ≤ t ∧ (t : Int) - f < c)) = true ∨ decide ((f < 0 ∧ 1 ≤ c ∧ (t : Int) < f + c) ∨ (0 ≤ f ∧ 1 ≤ c ∧ f ≤ t ∧ (t : Int) - f < c)) = false := by
      cases decide ((f < 0 ∧ 1 ≤ c ∧ (t : Int) < f + c) ∨ (0 ≤ f ∧ 1 ≤ c ∧ f ≤ t ∧ (t : Int) - f < c)) <;> simp
    rcases hd with hd | hd
    all_goals
      rw [hd]
      first | rw [decide_eq_true_eq] at hd | rw [decide_eq_false_iff_not] at hd
    all_goals
      first
      | (exfalso; omega)
      | (clear hd
         obtain ⟨hy1, hy⟩ := hy
         try obtain ⟨hy2, hy⟩ := hy
         try obtain ⟨hy3, hy⟩ := hy
         go_enter Try.func72, Try.ntmps72
         go_wp2
         go_ret
         exact ⟨ret_bool (by first | rfl | (simp; omega)), by (repeat' first | (with_reducible exact Grew.refl _) | (with_reducible assumption) | (with_reducible refine Grew.alloc ?_ _) | (with_reducible refine Grew.drew ?_) | (with_reducible refine Grew.drewN ?_ _) | (with_reducible refine Grew.setRow ?_ (by first | (simp; done) | (simp; omega) | omega) _) | (with_reducible refine Grew.setCell ?_ (by first | (simp; done) | (simp; omega) | omega) _) | ((with_reducible apply Grew.trans); rotate_left; (with_reducible assumption)) | ((with_reducible apply Grew.turn); rotate_left; (with_reducible assumption); (focus (intro i hi; first | omega | (simp at hi; omega)))) | fail)⟩)
  by_cases hy : 0 ≤ f ∧ 1 ≤ c ∧ f ≤ (t : Int) ∧ c ≤ (t : Int) - f
  · have hd : decide ((f < 0 ∧ 1 ≤ c ∧ (t : Int) < f + c) ∨ (0 ≤ f ∧ 1 ≤ c ∧ f ≤ t ∧ (t : Int) - f < c)) = true ∨ decide ((f < 0 ∧ 1 ≤ c ∧ (t : Int) < f + c) ∨ (0 ≤ f ∧ 1 ≤ c ∧ f ≤ t ∧ (t : Int) - f < c)) = false := by
      cases decide ((f < 0 ∧ 1 ≤ c ∧ (t : Int) < f + c) ∨ (0 ≤ f ∧ 1 ≤ c ∧ f ≤ t ∧ (t : Int) - f < c)) <;> simp
    rcases hd with hd | hd
    all_goals
      rw [hd]
      first | rw [decide_eq_true_eq] at hd | rw [decide_eq_false_iff_not] at hd
    all_goals
      first
      | (exfalso; omega)
      | (clear hd
         obtain ⟨hy1, hy⟩ := hy
         try obtain ⟨hy2, hy⟩ := hy
         try obtain ⟨hy3, hy⟩ := hy
         go_enter Try.func72, Try.ntmps72
         go_wp2
         go_ret
         exact ⟨ret_bool (by first | rfl | (simp; omega)), by (repeat' first | (with_reducible exact Grew.refl _) | (with_reducible assumption) | (with_reducible refine Grew.alloc ?_ _) | (with_reducible refine Grew.drew ?_) | (with_reducible refine Grew.drewN ?_ _) | (with_reducible refine Grew.setRow ?_ (by first | (simp; done) | (simp; omega) | omega) _) | (with_reducible refine Grew.setCell ?_ (by first | (simp; done) | (simp; omega) | omega) _) | ((with_reducible apply Grew.trans); rotate_left; (with_reducible assumption)) | ((with_reducible apply Grew.turn); rotate_left; (with_reducible assumption); (focus (intro i hi; first | omega | (simp at hi; omega)))) | fail)⟩)
  exfalso; omega
def loS (r : Nat × Nat) (t : Nat) : Nat := if r.1 < t ∧ 0 < r.2 then r.1 else 0
def cnS (r : Nat × Nat) (t : Nat) : Nat := min (r.1 + r.2) t - r.1
set_option maxRecDepth 100000 in
set_option maxHeartbeats 1000000 in
theorem refclip_any (f c : Int) (w : World) (f0 : -9223372036854775808 ≤ f) (f1 : f ≤ 9223372036854775807) (c0 : -9223372036854775808 ≤ c) (c1 : c ≤ 9223372036854775807) :
    Calls Try.prog 59 #[.agg #[.int .i64 f, .int .i64 c]] w fun e w' => e = .returned (.agg #[.int .i64 ((clipS (f, c)).1 : Int), .int .i64 ((clipS (f, c)).2 : Int)]) ∧ Grew w w' := by
  have hle := clipS_le (f, c)
  have hz := clipS_zero (f, c)
  have HH := fun t w ht => Lib.hid (holds_any f c t w ht f0 f1 c0 c1)
  generalize clipS (f, c) = r at *
  obtain ⟨lo, n⟩ := r
  simp only at hle hz ⊢
  go_enter Try.func59, Try.ntmps59
  go_wp2_with fail
  go_loopg [4] 128 (fun gk i wr => ∃ k : Nat, k ≤ 128 ∧ gk = 128 - k ∧ i = .int .i64 k ∧ Blk wr w.heap.size 25 #[.int .i64 f, .int .i64 c] ∧ Blk wr (w.heap.size + 1) 25 #[.int .i64 0, .int .i64 0] ∧ Blk wr (w.heap.size + 2) 25 #[.int .i64 (loS (lo, n) k : Int), .int .i64 (cnS (lo, n) k : Int)] ∧ Grew w wr)
  case atStart => exact ⟨0, by omega, by omega, rfl, by (apply Blk.conv; (· (repeat' first | (with_reducible assumption) | (with_reducible apply Blk.setRow) | ((with_reducible apply Blk.farRow); rotate_left; (focus (first | (simp; done) | (simp; omega) | omega))) | (with_reducible apply Blk.drew) | (with_reducible apply Blk.drewN) | (with_reducible apply Blk.set_) | (with_reducible exact Blk.new _ _ _ (by first | rfl | (simp; done) | (simp; omega))) | (with_reducible apply Blk.alloc) | ((with_reducible apply Blk.far); rotate_left; (focus (first | (simp; done) | (simp; omega) | omega))) | ((with_reducible apply Blk.grew); rotate_left; (with_reducible assumption)) | ((with_reducible apply Blk.turned); rotate_left; (with_reducible assumption); (focus (first | (simp; done) | (simp; omega) | omega))) | fail)); (· rfl)), by (apply Blk.conv; (· (repeat' first | (with_reducible assumption) | (with_reducible apply Blk.setRow) | ((with_reducible apply Blk.farRow); rotate_left; (focus (first | (simp; done) | (simp; omega) | omega))) | (with_reducible apply Blk.drew) | (with_reducible apply Blk.drewN) | (with_reducible apply Blk.set_) | (with_reducible exact Blk.new _ _ _ (by first | rfl | (simp; done) | (simp; omega))) | (with_reducible apply Blk.alloc) | ((with_reducible apply Blk.far); rotate_left; (focus (first | (simp; done) | (simp; omega) | omega))) | ((with_reducible apply Blk.grew); rotate_left; (with_reducible assumption)) | ((with_reducible apply Blk.turned); rotate_left; (with_reducible assumption); (focus (first | (simp; done) | (simp; omega) | omega))) | fail)); (· rfl)), by rw [show loS (lo, n) 0 = 0 from by simp [loS], show cnS (lo, n) 0 = 0 from by simp [cnS]]; (apply Blk.conv; (· (repeat' first | (with_reducible assumption) | (with_reducible apply Blk.setRow) | ((with_reducible apply Blk.farRow); rotate_left; (focus (first | (simp; done) | (simp; omega) | omega))) | (with_reducible apply Blk.drew) | (with_reducible apply Blk.drewN) | (with_reducible apply Blk.set_) | (with_reducible exact Blk.new _ _ _ (by first | rfl | (simp; done) | (simp; omega))) | (with_reducible apply Blk.alloc) | ((with_reducible apply Blk.far); rotate_left; (focus (first | (simp; done) | (simp; omega) | omega))) | ((with_reducible apply Blk.grew); rotate_left; (with_reducible assumption)) | ((with_reducible apply Blk.turned); rotate_left; (with_reducible assumption); (focus (first | (simp; done) | (simp; omega) | omega))) | fail)); (· rfl)), by (repeat' first | (with_reducible exact Grew.refl _) | (with_reducible assumption) | (with_reducible refine Grew.alloc ?_ _) | (with_reducible refine Grew.drew ?_) | (with_reducible refine Grew.drewN ?_ _) | (with_reducible refine Grew.setRow ?_ (by first | (simp; done) | (simp; omega) | omega) _) | (with_reducible refine Grew.setCell ?_ (by first | (simp; done) | (simp; omega) | omega) _) | ((with_reducible apply Grew.trans); rotate_left; (with_reducible assumption)) | ((with_reducible apply Grew.turn); rotate_left; (with_reducible assumption); (focus (intro i hi; first | omega | (simp at hi; omega)))) | fail)⟩
  case round =>
    obtain ⟨k, hk, hgk, rfl, hb0, hb1, hb2, hg⟩ := hrel
    have HGK := Lib.hid hgk
    clear hgk
    have hz1 := hb2.lt
    have a0 := hb0.cell 0
    have a1 := hb0.cell 1
    have x0 := hb2.cell 0
    have x1 := hb2.cell 1
    have xf0 := hb2.frozen 0
    have xf1 := hb2.frozen 1
    have y0 := hb1.cell 0
    have y1 := hb1.cell 1
    have yf0 := hb1.frozen 0
    have yf1 := hb1.frozen 1
    by_cases hlt : k < 128
    · go_wp2_with fail
      refine (HH k _ (by omega)).out.mono ?_
      rintro e w1 ⟨rfl, g1⟩
      have hb0' := hb0.grew g1
      have hb1' := hb1.grew g1
      have hb2' := hb2.grew g1
      have hz2 := hb2'.lt
      clear a0 a1 x0 x1 xf0 xf1 y0 y1 yf0 yf1
      have x0 := hb2'.cell 0
      have x1 := hb2'.cell 1
      have xf0 := hb2'.frozen 0
      have xf1 := hb2'.frozen 1
      by_cases hin : lo ≤ k ∧ k < lo + n
      · have hd : inS (lo, n) k = true := by simp [inS, hin]
        have hc1 : cnS (lo, n) (k + 1) = cnS (lo, n) k + 1 := by unfold cnS; simp only []; omega
        by_cases hc : cnS (lo, n) k = 0
        · have hl1 : loS (lo, n) (k + 1) = k := by unfold loS cnS at *; simp only [] at *; rw [if_pos (by omega)]; omega
          have hb : (((cnS (lo, n) k : Nat) : Int) == 0) = true := beq_iff_eq.2 (by omega)
          have H1 := Lib.hid hc1
          have H2 := Lib.hid hl1
          have hcb : cnS (lo, n) k ≤ 128 := by omega
          clear hc1 hl1 hc
          go_wp2_with fail
          go_roundg (128 - (k + 1))
          case measure => rw [HGK.out]; omega
          case rel => exact ⟨k + 1, by omega, by omega, by go_num, by (apply Blk.conv; (· (repeat' first | (with_reducible assumption) | (with_reducible apply Blk.setRow) | ((with_reducible apply Blk.farRow); rotate_left; (focus (first | (simp; done) | (simp; omega) | omega))) | (with_reducible apply Blk.drew) | (with_reducible apply Blk.drewN) | (with_reducible apply Blk.set_) | (with_reducible exact Blk.new _ _ _ (by first | rfl | (simp; done) | (simp; omega))) | (with_reducible apply Blk.alloc) | ((with_reducible apply Blk.far); rotate_left; (focus (first | (simp; done) | (simp; omega) | omega))) | ((with_reducible apply Blk.grew); rotate_left; (with_reducible assumption)) | ((with_reducible apply Blk.turned); rotate_left; (with_reducible assumption); (focus (first | (simp; done) | (simp; omega) | omega))) | fail)); (· rfl)), by (apply Blk.conv; (· (repeat' first | (with_reducible assumption) | (with_reducible apply Blk.setRow) | ((with_reducible apply Blk.farRow); rotate_left; (focus (first | (simp; done) | (simp; omega) | omega))) | (with_reducible apply Blk.drew) | (with_reducible apply Blk.drewN) | (with_reducible apply Blk.set_) | (with_reducible exact Blk.new _ _ _ (by first | rfl | (simp; done) | (simp; omega))) | (with_reducible apply Blk.alloc) | ((with_reducible apply Blk.far); rotate_left; (focus (first | (simp; done) | (simp; omega) | omega))) | ((with_reducible apply Blk.grew); rotate_left; (with_reducible assumption)) | ((with_reducible apply Blk.turned); rotate_left; (with_reducible assumption); (focus (first | (simp; done) | (simp; omega) | omega))) | fail)); (· rfl)), by rw [H1.out, H2.out]; (apply Blk.conv; (· (repeat' first | (with_reducible assumption) | (with_reducible apply Blk.setRow) | ((with_reducible apply Blk.farRow); rotate_left; (focus (first | (simp; done) | (simp; omega) | omega))) | (with_reducible apply Blk.drew) | (with_reducible apply Blk.drewN) | (with_reducible apply Blk.set_) | (with_reducible exact Blk.new _ _ _ (by first | rfl | (simp; done) | (simp; omega))) | (with_reducible apply Blk.alloc) | ((with_reducible apply Blk.far); rotate_left; (focus (first | (simp; done) | (simp; omega) | omega))) | ((with_reducible apply Blk.grew); rotate_left; (with_reducible assumption)) | ((with_reducible apply Blk.turned); rotate_left; (with_reducible assumption); (focus (first | (simp; done) | (simp; omega) | omega))) | fail)); (· rfl)), by (repeat' first | (with_reducible exact Grew.refl _) | (with_reducible assumption) | (with_reducible refine Grew.alloc ?_ _) | (with_reducible refine Grew.drew ?_) | (with_reducible refine Grew.drewN ?_ _) | (with_reducible refine Grew.setRow ?_ (by first | (simp; done) | (simp; omega) | omega) _) | (with_reducible refine Grew.setCell ?_ (by first | (simp; done) | (simp; omega) | omega) _) | ((with_reducible apply Grew.trans); rotate_left; (with_reducible assumption)) | ((with_reducible apply Grew.turn); rotate_left; (with_reducible assumption); (focus (intro i hi; first | omega | (simp at hi; omega)))) | fail)⟩
        · have hl1 : loS (lo, n) (k + 1) = loS (lo, n) k := by unfold loS cnS at *; simp only [] at *; rw [if_pos (by omega), if_pos (by omega)]
          have hb : (((cnS (lo, n) k : Nat) : Int) == 0) = false := beq_eq_false_iff_ne.2 (by omega)
          have H1 := Lib.hid hc1
          have H2 := Lib.hid hl1
          have hcb : cnS (lo, n) k ≤ 128 := by unfold cnS; simp only []; omega
          clear hc1 hl1 hc
          go_wp2_with fail
          go_roundg (128 - (k + 1))
          case measure => rw [HGK.out]; omega
          case rel => exact ⟨k + 1, by omega, by omega, by go_num, by (apply Blk.conv; (· (repeat' first | (with_reducible assumption) | (with_reducible apply Blk.setRow) | ((with_reducible apply Blk.farRow); rotate_left; (focus (first | (simp; done) | (simp; omega) | omega))) | (with_reducible apply Blk.drew) | (with_reducible apply Blk.drewN) | (with_reducible apply Blk.set_) | (with_reducible exact Blk.new _ _ _ (by first | rfl | (simp; done) | (simp; omega))) | (with_reducible apply Blk.alloc) | ((with_reducible apply Blk.far); rotate_left; (focus (first | (simp; done) | (simp; omega) | omega))) | ((with_reducible apply Blk.grew); rotate_left; (with_reducible assumption)) | ((with_reducible apply Blk.turned); rotate_left; (with_reducible assumption); (focus (first | (simp; done) | (simp; omega) | omega))) | fail)); (· rfl)), by (apply Blk.conv; (· (repeat' first | (with_reducible assumption) | (with_reducible apply Blk.setRow) | ((with_reducible apply Blk.farRow); rotate_left; (focus (first | (simp; done) | (simp; omega) | omega))) | (with_reducible apply Blk.drew) | (with_reducible apply Blk.drewN) | (with_reducible apply Blk.set_) | (with_reducible exact Blk.new _ _ _ (by first | rfl | (simp; done) | (simp; omega))) | (with_reducible apply Blk.alloc) | ((with_reducible apply Blk.far); rotate_left; (focus (first | (simp; done) | (simp; omega) | omega))) | ((with_reducible apply Blk.grew); rotate_left; (with_reducible assumption)) | ((with_reducible apply Blk.turned); rotate_left; (with_reducible assumption); (focus (first | (simp; done) | (simp; omega) | omega))) | fail)); (· rfl)), by rw [H1.out, H2.out]; (apply Blk.conv; (· (repeat' first | (with_reducible assumption) | (with_reducible apply Blk.setRow) | ((with_reducible apply Blk.farRow); rotate_left; (focus (first | (simp; done) | (simp; omega) | omega))) | (with_reducible apply Blk.drew) | (with_reducible apply Blk.drewN) | (with_reducible apply Blk.set_) | (with_reducible exact Blk.new _ _ _ (by first | rfl | (simp; done) | (simp; omega))) | (with_reducible apply Blk.alloc) | ((with_reducible apply Blk.far); rotate_left; (focus (first | (simp; done) | (simp; omega) | omega))) | ((with_reducible apply Blk.grew); rotate_left; (with_reducible assumption)) | ((with_reducible apply Blk.turned); rotate_left; (with_reducible assumption); (focus (first | (simp; done) | (simp; omega) | omega))) | fail)); (· rfl)), by (repeat' first | (with_reducible exact Grew.refl _) | (with_reducible assumption) | (with_reducible refine Grew.alloc ?_ _) | (with_reducible refine Grew.drew ?_) | (with_reducible refine Grew.drewN ?_ _) | (with_reducible refine Grew.setRow ?_ (by first | (simp; done) | (simp; omega) | omega) _) | (with_reducible refine Grew.setCell ?_ (by first | (simp; done) | (simp; omega) | omega) _) | ((with_reducible apply Grew.trans); rotate_left; (with_reducible assumption)) | ((with_reducible apply Grew.turn); rotate_left; (with_reducible assumption); (focus (intro i hi; first | omega | (simp at hi; omega)))) | fail)⟩
      · have hd : inS (lo, n) k = false := by simp [inS]; omega
        have hc1 : cnS (lo, n) (k + 1) = cnS (lo, n) k := by unfold cnS; simp only []; omega
        have hl1 : loS (lo, n) (k + 1) = loS (lo, n) k := by
          unfold loS; simp only []
          by_cases h : lo < k ∧ 0 < n
          · rw [if_pos h, if_pos (by omega)]
          · rw [if_neg h]
            by_cases h' : lo < k + 1 ∧ 0 < n
            · exfalso; omega
            · rw [if_neg h']
        have H1 := Lib.hid hc1
        have H2 := Lib.hid hl1
        clear hc1 hl1
        go_wp2_with fail
        go_roundg (128 - (k + 1))
        case measure => rw [HGK.out]; omega
        case rel => exact ⟨k + 1, by omega, by omega, by go_num, hb0', hb1', by rw [H1.out, H2.out]; exact hb2', by (repeat' first | (with_reducible exact Grew.refl _) | (with_reducible assumption) | (with_reducible refine Grew.alloc ?_ _) | (with_reducible refine Grew.drew ?_) | (with_reducible refine Grew.drewN ?_ _) | (with_reducible refine Grew.setRow ?_ (by first | (simp; done) | (simp; omega) | omega) _) | (with_reducible refine Grew.setCell ?_ (by first | (simp; done) | (simp; omega) | omega) _) | ((with_reducible apply Grew.trans); rotate_left; (with_reducible assumption)) | ((with_reducible apply Grew.turn); rotate_left; (with_reducible assumption); (focus (intro i hi; first | omega | (simp at hi; omega)))) | fail)⟩
    · obtain rfl : k = 128 := by omega
      have hc : cnS (lo, n) 128 = n := by unfold cnS; simp only []; omega
      have hl : loS (lo, n) 128 = lo := by
        unfold loS; simp only []
        by_cases h : lo < 128 ∧ 0 < n
        · rw [if_pos h]
        · rw [if_neg h]; have : n = 0 ∨ 0 < n := by omega
          rcases this with h' | h'
          · exact (hz h').symm
          · omega
      have H1 := Lib.hid hc
      have H2 := Lib.hid hl
      clear hc hl hlt
      go_wp2_with fail
      refine bodyPost_ret (by first | (simp [*, results, Try.results59, go_sem]; rfl) | simp [*, results, Try.results59, go_sem]) rfl ?_
      exact ⟨ret_agg2 (by rw [H2.out]) (by rw [H1.out]), by (repeat' first | (with_reducible exact Grew.refl _) | (with_reducible assumption) | (with_reducible refine Grew.alloc ?_ _) | (with_reducible refine Grew.drew ?_) | (with_reducible refine Grew.drewN ?_ _) | (with_reducible refine Grew.setRow ?_ (by first | (simp; done) | (simp; omega) | omega) _) | (with_reducible refine Grew.setCell ?_ (by first | (simp; done) | (simp; omega) | omega) _) | ((with_reducible apply Grew.trans); rotate_left; (with_reducible assumption)) | ((with_reducible apply Grew.turn); rotate_left; (with_reducible assumption); (focus (intro i hi; first | omega | (simp at hi; omega)))) | fail)⟩
end Go.Proofs.Ytenbcjlikoajdaa
