/- Size, Index, At, Contains: the program's. -/
import Derived.Test.YtkiciojipiakoaaExtD
namespace Go.Proofs.Ytkiciojipiakoaa
set_option linter.unusedVariables false
set_option linter.unusedSimpArgs false
set_option linter.unusedSectionVars false
open Go.RowKit
def sizeS (l : List (Int × Int)) : Nat := (l.map fun r => (clipS r).2).sum
theorem sizeS_snoc (l : List (Int × Int)) (k : Nat) (h : k < l.length) : sizeS (l.take (k + 1)) = sizeS (l.take k) + (clipS l[k]).2 := by
  unfold sizeS; rw [List.take_succ_eq_append_getElem h, List.map_append, List.sum_append]; simp
theorem sizeS_le (l : List (Int × Int)) : sizeS l ≤ 128 * l.length := by
  induction l with
  | nil => simp [sizeS]
  | cons r l ih =>
    have := clipS_le r
    unfold sizeS at ih ⊢
    simp only [List.map_cons, List.sum_cons, List.length_cons]
    omega
/-- The least index of a track in the sequence of a list, from n on. -/
def idxS (t : Int) : List (Int × Int) → Nat → Int × Bool
  | [], _ => (0, false)
  | r :: l, n => if ((clipS r).1 : Int) ≤ t ∧ t < ((clipS r).1 : Int) + (clipS r).2 then ((n : Int) + t - (clipS r).1, true) else idxS t l (n + (clipS r).2)
/-- The track at an index. -/
def atS : List (Int × Int) → Int → Int × Bool
  | [], _ => (0, false)
  | r :: l, i => if i < ((clipS r).2 : Int) then ((clipS r).1 + i, true) else atS l (i - (clipS r).2)
theorem drop_cons (l : List (Int × Int)) (k : Nat) (h : k < l.length) : l.drop k = l[k] :: l.drop (k + 1) := List.drop_eq_getElem_cons h
theorem ret_ib {a b : Int} {c d : Bool} (h : a = b) (h' : c = d) : Ending.returned (.tuple #[.int .i64 a, .bool c]) = .returned (.tuple #[.int .i64 b, .bool d]) := by rw [h, h']
theorem ret_int {k : IntKind} {a b : Int} (h : a = b) : Ending.returned (.int k a) = .returned (.int k b) := by rw [h]
theorem field_cnt (W : World) (a b : Int) : (Instr.field 43 (.agg #[.int .i64 a, .int .i64 b]) 1).run Try.prog W = .ok (.int .i64 b) W := by kernel_rfl
section
variable (A : Option Addr) (c : Nat) (l : List (Int × Int)) (w : World) (B : Nat) (hB : B ≤ w.heap.size) (hl : l.length ≤ 1000000) (hr : RunsAt w B A l)
include hB hl hr
set_option maxRecDepth 100000 in
set_option maxHeartbeats 4000000 in
theorem size_any : Calls Try.prog 59 #[.slice A l.length c] w fun e w' => e = .returned (.int .i64 (sizeS l)) ∧ Grew w w' := by
  have HR := Lib.hid hr
  clear hr
  have hfd := field_cnt
  go_enter Try.func59, Try.ntmps59
  go_wp2_with fail
  go_loopg [3, 8] l.length (fun gk n i wr => ∃ k : Nat, k ≤ l.length ∧ gk = l.length - k ∧ i = .int .i64 k ∧ n = .int .i64 (sizeS (l.take k)) ∧ Grew w wr)
  case atStart => exact ⟨0, by omega, by omega, rfl, rfl, by (repeat' first | (with_reducible exact Grew.refl _) | (with_reducible assumption) | (with_reducible refine Grew.alloc ?_ _) | (with_reducible refine Grew.drew ?_) | (with_reducible refine Grew.drewN ?_ _) | (with_reducible refine Grew.setRow ?_ (by first | (simp; done) | (simp; omega) | omega) _) | (with_reducible refine Grew.setCell ?_ (by first | (simp; done) | (simp; omega) | omega) _) | ((with_reducible apply Grew.trans); rotate_left; (with_reducible assumption)) | ((with_reducible apply Grew.turn); rotate_left; (with_reducible assumption); (focus (intro i hi; first | omega | (simp at hi; omega)))) | fail)⟩
  case round =>
    obtain ⟨k, hk, hgk, rfl, rfl, hg⟩ := hrel
    have HGK := Lib.hid hgk
    clear hgk
    have hsz := sizeS_le (l.take k)
    have hsl : (l.take k).length ≤ 1000000 := Nat.le_trans (List.length_take_le _ _) (by omega)
    by_cases hlt : k < l.length
    · obtain ⟨b, off, f, c, rfl, hb, hlk, ⟨f0, f1, c0, c1⟩, x0, x1⟩ := (HR.out.keep hB hg).at_ hlt
      simp only at f0 f1 c0 c1
      have hbs : b < wr.heap.size := by have := hg.size; omega
      have hws := hg.size
      have hle := clipS_le (f, c)
      have HN := Lib.hid ((sizeS_snoc l k hlt).trans (by rw [hlk]))
      clear hlk
      go_wp2_with fail
      refine (clip_any f c _ f0 f1 c0 c1).mono ?_
      rintro e w1 ⟨rfl, g1⟩
      go_wp2_with fail
      go_roundg (l.length - (k + 1))
      case measure => rw [HGK.out]; omega
      case rel => exact ⟨k + 1, by omega, by omega, by go_num, by rw [HN.out]; go_num, by (repeat' first | (with_reducible exact Grew.refl _) | (with_reducible assumption) | (with_reducible refine Grew.alloc ?_ _) | (with_reducible refine Grew.drew ?_) | (with_reducible refine Grew.drewN ?_ _) | (with_reducible refine Grew.setRow ?_ (by first | (simp; done) | (simp; omega) | omega) _) | (with_reducible refine Grew.setCell ?_ (by first | (simp; done) | (simp; omega) | omega) _) | ((with_reducible apply Grew.trans); rotate_left; (with_reducible assumption)) | ((with_reducible apply Grew.turn); rotate_left; (with_reducible assumption); (focus (intro i hi; first | omega | (simp at hi; omega)))) | fail)⟩
    · obtain rfl : k = l.length := by omega
      go_wp2_with fail
      go_ret
      exact ⟨ret_int (by rw [List.take_length]), by (repeat' first | (with_reducible exact Grew.refl _) | (with_reducible assumption) | (with_reducible refine Grew.alloc ?_ _) | (with_reducible refine Grew.drew ?_) | (with_reducible refine Grew.drewN ?_ _) | (with_reducible refine Grew.setRow ?_ (by first | (simp; done) | (simp; omega) | omega) _) | (with_reducible refine Grew.setCell ?_ (by first | (simp; done) | (simp; omega) | omega) _) | ((with_reducible apply Grew.trans); rotate_left; (with_reducible assumption)) | ((with_reducible apply Grew.turn); rotate_left; (with_reducible assumption); (focus (intro i hi; first | omega | (simp at hi; omega)))) | fail)⟩
end
end Go.Proofs.Ytkiciojipiakoaa
