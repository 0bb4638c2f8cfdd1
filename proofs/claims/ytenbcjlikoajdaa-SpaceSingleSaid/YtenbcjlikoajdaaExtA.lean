/- clip: the program's and the reference's. -/
import Derived.Test.YtenbcjlikoajdaaFrame
import Derived.WalkKit
import Derived.WalkSpells
import Derived.WalkLawsBesides
import Derived.Handy
import Derived.Lib.Hide
import Derived.Deep.LoopGhost
import Derived.RegionTactic
import Derived.ChangeAlike
namespace Go.Proofs.Ytenbcjlikoajdaa
set_option linter.unusedVariables false
set_option linter.unusedSimpArgs false
set_option linter.unusedSectionVars false
open Go.RowKit
/-- The existing tracks of a run: where they begin, and how many. -/
def clipS (r : Int × Int) : Nat × Nat :=
  if r.2 < 1 ∨ 128 ≤ r.1 then (0, 0)
  else if r.1 < 0 then (if r.1 + r.2 ≤ 0 then (0, 0) else if r.1 + r.2 < 128 then (0, (r.1 + r.2).toNat) else (0, 128))
  else if r.2 < 128 - r.1 then (r.1.toNat, r.2.toNat) else (r.1.toNat, (128 - r.1).toNat)
theorem clipS_le (r : Int × Int) : (clipS r).1 + (clipS r).2 ≤ 128 := by
  unfold clipS; repeat' split
  all_goals (simp only []; omega)
def runV (r : Nat × Nat) : Value := .agg #[.int .i64 (r.1 : Int), .int .i64 (r.2 : Int)]
theorem ret_agg2 {a b c d : Int} (h : a = b) (h' : c = d) : Ending.returned (.agg #[.int .i64 a, .int .i64 c]) = .returned (.agg #[.int .i64 b, .int .i64 d]) := by rw [h, h']
set_option maxRecDepth 100000 in
set_option maxHeartbeats 1000000 in
theorem clip_any (f c : Int) (w : World) (f0 : -9223372036854775808 ≤ f) (f1 : f ≤ 9223372036854775807) (c0 : -9223372036854775808 ≤ c) (c1 : c ≤ 9223372036854775807) :
    Calls Try.prog 48 #[.agg #[.int .i64 f, .int .i64 c]] w fun e w' => e = .returned (.agg #[.int .i64 ((clipS (f, c)).1 : Int), .int .i64 ((clipS (f, c)).2 : Int)]) ∧ Grew w w' := by
  unfold clipS
  simp only []
  by_cases hy : c < 1
  · rw [if_pos (Or.inl hy)]
    have hx : c < 1 ∨ 1 ≤ c := by omega
    try obtain ⟨hy1, hy⟩ := hy
    try obtain ⟨hy2, hy⟩ := hy
    try obtain ⟨hy3, hy⟩ := hy
    go_enter Try.func48, Try.ntmps48
    go_wp2
    all_goals
      go_returns
      exact ⟨ret_agg2 (by omega) (by omega), by (repeat' first | (with_reducible exact Grew.refl _) | (with_reducible assumption) | (with_reducible refine Grew.alloc ?_ _) | (with_reducible refine Grew.drew ?_) | (with_reducible refine Grew.drewN ?_ _) | (with_reducible refine Grew.setRow ?_ (by first | (simp; done) | (simp; omega) | omega) _) | (with_reducible refine Grew.setCell ?_ (by first | (simp; done) | (simp; omega) | omega) _) | ((with_reducible apply Grew.trans); rotate_left; (with_reducible assumption)) | ((with_reducible apply Grew.turn); rotate_left; (with_reducible assumption); (focus (intro i hi; first | omega | (simp at hi; omega)))) | fail)⟩
  by_cases hy : ¬ c < 1 ∧ 128 ≤ f
  · rw [if_pos (Or.inr hy.2)]
    have hx : c < 1 ∨ 1 ≤ c := by omega
    try obtain ⟨hy1, hy⟩ := hy
    try obtain ⟨hy2, hy⟩ := hy
    try obtain ⟨hy3, hy⟩ := hy
    go_enter Try.func48, Try.ntmps48
    go_wp2
    all_goals
      go_returns
      exact ⟨ret_agg2 (by omega) (by omega), by (repeat' first | (with_reducible exact Grew.refl _) | (with_reducible assumption) | (with_reducible refine Grew.alloc ?_ _) | (with_reducible refine Grew.drew ?_) | (with_reducible refine Grew.drewN ?_ _) | (with_reducible refine Grew.setRow ?_ (by first | (simp; done) | (simp; omega) | omega) _) | (with_reducible refine Grew.setCell ?_ (by first | (simp; done) | (simp; omega) | omega) _) | ((with_reducible apply Grew.trans); rotate_left; (with_reducible assumption)) | ((with_reducible apply Grew.turn); rotate_left; (with_reducible assumption); (focus (intro i hi; first | omega | (simp at hi; omega)))) | fail)⟩
  by_cases hy : ¬ c < 1 ∧ f < 0 ∧ f + c ≤ 0
  · rw [if_neg (by omega), if_pos hy.2.1, if_pos hy.2.2]
    have hx : c < 1 ∨ 1 ≤ c := by omega
    try obtain ⟨hy1, hy⟩ := hy
    try obtain ⟨hy2, hy⟩ := hy
    try obtain ⟨hy3, hy⟩ := hy
    go_enter Try.func48, Try.ntmps48
    go_wp2
    all_goals
      go_returns
      exact ⟨ret_agg2 (by omega) (by omega), by (repeat' first | (with_reducible exact Grew.refl _) | (with_reducible assumption) | (with_reducible refine Grew.alloc ?_ _) | (with_reducible refine Grew.drew ?_) | (with_reducible refine Grew.drewN ?_ _) | (with_reducible refine Grew.setRow ?_ (by first | (simp; done) | (simp; omega) | omega) _) | (with_reducible refine Grew.setCell ?_ (by first | (simp; done) | (simp; omega) | omega) _) | ((with_reducible apply Grew.trans); rotate_left; (with_reducible assumption)) | ((with_reducible apply Grew.turn); rotate_left; (with_reducible assumption); (focus (intro i hi; first | omega | (simp at hi; omega)))) | fail)⟩
  by_cases hy : ¬ c < 1 ∧ f < 0 ∧ 0 < f + c ∧ f + c < 128
  · rw [if_neg (by omega), if_pos hy.2.1, if_neg (by omega), if_pos hy.2.2.2]
    have hx : c < 1 ∨ 1 ≤ c := by omega
    try obtain ⟨hy1, hy⟩ := hy
    try obtain ⟨hy2, hy⟩ := hy
    try obtain ⟨hy3, hy⟩ := hy
    go_enter Try.func48, Try.ntmps48
    go_wp2
    all_goals
      go_returns
      exact ⟨ret_agg2 (by omega) (by omega), by (repeat' first | (with_reducible exact Grew.refl _) | (with_reducible assumption) | (with_reducible refine Grew.alloc ?_ _) | (with_reducible refine Grew.drew ?_) | (with_reducible refine Grew.drewN ?_ _) | (with_reducible refine Grew.setRow ?_ (by first | (simp; done) | (simp; omega) | omega) _) | (with_reducible refine Grew.setCell ?_ (by first | (simp; done) | (simp; omega) | omega) _) | ((with_reducible apply Grew.trans); rotate_left; (with_reducible assumption)) | ((with_reducible apply Grew.turn); rotate_left; (with_reducible assumption); (focus (intro i hi; first | omega | (simp at hi; omega)))) | fail)⟩
  by_cases hy : ¬ c < 1 ∧ f < 0 ∧ 128 ≤ f + c
  · rw [if_neg (by omega), if_pos hy.2.1, if_neg (by omega), if_neg (by omega)]
    have hx : c < 1 ∨ 1 ≤ c := by omega
    try obtain ⟨hy1, hy⟩ := hy
    try obtain ⟨hy2, hy⟩ := hy
    try obtain ⟨hy3, hy⟩ := hy
    go_enter Try.func48, Try.ntmps48
    go_wp2
    all_goals
      go_returns
      exact ⟨ret_agg2 (by omega) (by omega), by (repeat' first | (with_reducible exact Grew.refl _) | (with_reducible assumption) | (with_reducible refine Grew.alloc ?_ _) | (with_reducible refine Grew.drew ?_) | (with_reducible refine Grew.drewN ?_ _) | (with_reducible refine Grew.setRow ?_ (by first | (simp; done) | (simp; omega) | omega) _) | (with_reducible refine Grew.setCell ?_ (by first | (simp; done) | (simp; omega) | omega) _) | ((with_reducible apply Grew.trans); rotate_left; (with_reducible assumption)) | ((with_reducible apply Grew.turn); rotate_left; (with_reducible assumption); (focus (intro i hi; first | omega | (simp at hi; omega)))) | fail)⟩
  by_cases hy : ¬ c < 1 ∧ 0 ≤ f ∧ f < 128 ∧ c < 128 - f
  · rw [if_neg (by omega), if_neg (by omega), if_pos hy.2.2.2]
    have hx : c < 1 ∨ 1 ≤ c := by omega
    try obtain ⟨hy1, hy⟩ := hy
    try obtain ⟨hy2, hy⟩ := hy
    try obtain ⟨hy3, hy⟩ := hy
    go_enter Try.func48, Try.ntmps48
    go_wp2
    all_goals
      go_returns
      exact ⟨ret_agg2 (by omega) (by omega), by (repeat' first | (with_reducible exact Grew.refl _) | (with_reducible assumption) | (with_reducible refine Grew.alloc ?_ _) | (with_reducible refine Grew.drew ?_) | (with_reducible refine Grew.drewN ?_ _) | (with_reducible refine Grew.setRow ?_ (by first | (simp; done) | (simp; omega) | omega) _) | (with_reducible refine Grew.setCell ?_ (by first | (simp; done) | (simp; omega) | omega) _) | ((with_reducible apply Grew.trans); rotate_left; (with_reducible assumption)) | ((with_reducible apply Grew.turn); rotate_left; (with_reducible assumption); (focus (intro i hi; first | omega | (simp at hi; omega)))) | fail)⟩
  by_cases hy : ¬ c < 1 ∧ 0 ≤ f ∧ f < 128 ∧ 128 - f ≤ c
  · rw [if_neg (by omega), if_neg (by omega), if_neg (by omega)]
    have hx : c < 1 ∨ 1 ≤ c := by omega
    try obtain ⟨hy1, hy⟩ := hy
    try obtain ⟨hy2, hy⟩ := hy
    try obtain ⟨hy3, hy⟩ := hy
    go_enter Try.func48, Try.ntmps48
    go_wp2
    all_goals
      go_returns
      exact ⟨ret_agg2 (by omega) (by omega), by (repeat' first | (with_reducible exact Grew.refl _) | (with_reducible assumption) | (with_reducible refine Grew.alloc ?_ _) | (with_reducible refine Grew.drew ?_) | (with_reducible refine Grew.drewN ?_ _) | (with_reducible refine Grew.setRow ?_ (by first | (simp; done) | (simp; omega) | omega) _) | (with_reducible refine Grew.setCell ?_ (by first | (simp; done) | (simp; omega) | omega) _) | ((with_reducible apply Grew.trans); rotate_left; (with_reducible assumption)) | ((with_reducible apply Grew.turn); rotate_left; (with_reducible assumption); (focus (intro i hi; first | omega | (simp at hi; omega)))) | fail)⟩
  exfalso; omega
end Go.Proofs.Ytenbcjlikoajdaa
