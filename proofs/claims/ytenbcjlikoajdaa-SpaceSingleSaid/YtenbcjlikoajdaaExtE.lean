/- Size, Index, At, Contains: the program's. -/
import Derived.Test.YtenbcjlikoajdaaExtD
namespace Go.Proofs.Ytenbcjlikoajdaa
set_option linter.unusedVariables false
set_option linter.unusedSimpArgs false
set_option linter.unusedSectionVars false
open Go.RowKit
def sizeS (l : List (Int × Int)) : Nat := (l.map fun r => (clipS r).2).sum
theorem sizeS_snoc (l : List (Int × Int)) (k : Nat) (h : k < l.length) : sizeS (l.take (k + 1)) = sizeS (l.take k) + (clipS l[k]).2 := by
  unfold sizeS; rw [List.take_succ_eq_append_getElem h, List.map_append, List.sum_append]; simp
theorem sizeS_le (l : List (Int × Int)) : sizeS l ≤ 128 * l.length := by
  induction l with
  | nil => simp [sizeS]
  | cons r l ih =>
    have := clipS_le r
    unfold sizeS at ih ⊢
    simp only [List.map_cons, List.sum_cons, List.length_cons]
    omega
/-- The least index of a track in the sequence of a list, from n on. -/
def idxS (t : Int) : List (Int × Int) → Nat → Int × Bool
  | [], _ => (0, false)
  | r :: l, n => if ((clipS r).1 : Int) ≤ t ∧ t < ((clipS r).1 : Int) + (clipS r).2 then ((n : Int) + t - (clipS r).1, true) else idxS t l (n + (clipS r).2)
/-- The track at an index. -/
def atS : List (Int × Int) → Int → Int × Bool
  | [], _ => (0, false)
  | r :: l, i => if i < ((clipS r).2 : Int) then ((clipS r).1 + i, true) else atS l (i - (clipS r).2)
theorem drop_cons (l : List (Int × Int)) (k : Nat) (h : k < l.length) : l.drop k = l[k] :: l.drop (k + 1) := List.drop_eq_getElem_cons h
theorem ret_ib {a b : Int} {c d : Bool} (h : a = b) (h' : c = d) : Ending.returned (.tuple #[.int .i64 a, .bool c]) = .returned (.tuple #[.int .i64 b, .bool d]) := by rw [h, h']
theorem ret_int {k : IntKind} {a b : Int} (h : a = b) : Ending.returned (.int k a) = .returned (.int k b) := by rw [h]
theorem field_cnt (W : World) (a b : Int) : (Instr.field 25 (.agg #[.int .i64 a, .int .i64 b]) 1).run Try.prog W = .ok (.int .i64 b) W := by kernel_rfl
section
variable (A : Option Addr) (c : Nat) (l : List (Int × Int)) (w : World) (B : Nat) (hB : B ≤ w.heap.size) (hl : l.length ≤ 1000000) (hr : RunsAt w B A l)
include hB hl hr
set_option maxRecDepth 100000 in
set_option maxHeartbeats 4000000 in
theorem size_any : Calls Try.prog 20 #[.slice A l.length c] w fun e w' => e = .returned (.int .i64 (sizeS l)) ∧ Grew w w' := by
  have HR := Lib.hid hr
  clear hr
  have hfd := field_cnt
  go_enter Try.func20, Try.ntmps20
  go_wp2_with fail
  go_loopg [3, 8] l.length (fun gk n i wr => ∃ k : Nat, k ≤ l.length ∧ gk = l.length - k ∧ i = .int .i64 k ∧ n = .int .i64 (sizeS (l.take k)) ∧ Grew w wr)
  case atStart => exact ⟨0, by omega, by omega, rfl, rfl, by (repeat' first | (with_reducible exact Grew.refl _) | (with_reducible assumption) | (with_reducible refine Grew.alloc ?_ _) | (with_reducible refine Grew.drew ?_) | (with_reducible refine Grew.drewN ?_ _) | (with_reducible refine Grew.setRow ?_ (by first | (simp; done) | (simp; omega) | omega) _) | (with_reducible refine Grew.setCell ?_ (by first | (simp; done) | (simp; omega) | omega) _) | ((with_reducible apply Grew.trans); rotate_left; (with_reducible assumption)) | ((with_reducible apply Grew.turn); rotate_left; (with_reducible assumption); (focus (intro i hi; first | omega | (simp at hi; omega)))) | fail)⟩
  case round =>
    obtain ⟨k, hk, hgk, rfl, rfl, hg⟩ := hrel
    have HGK := Lib.hid hgk
    clear hgk
    have hsz := sizeS_le (l.take k)
    have hsl : (l.take k).length ≤ 1000000 := Nat.le_trans (List.length_take_le _ _) (by omega)
    by_cases hlt : k < l.length
    · obtain ⟨b, off, f, c, rfl, hb, hlk, ⟨f0, f1, c0, c1⟩, x0, x1⟩ := (HR.out.keep hB hg).at_ hlt
      simp only at f0 f1 c0 c1
      have hbs : b < wr.heap.size := by have := hg.size; omega
      have hws := hg.size
      have hle := clipS_le (f, c)
      have HN := Lib.hid ((sizeS_snoc l k hlt).trans (by rw [hlk]))
      clear hlk
      go_wp2_with fail
      refine (clip_any f c _ f0 f1 c0 c1).mono ?_
      rintro e w1 ⟨rfl, g1⟩
      go_wp2_with fail
      go_roundg (l.length - (k + 1))
      case measure => rw [HGK.out]; omega
      case rel => exact ⟨k + 1, by omega, by omega, by go_num, by rw [HN.out]; go_num, by (repeat' first | (with_reducible exact Grew.refl _) | (with_reducible assumption) | (with_reducible refine Grew.alloc ?_ _) | (with_reducible refine Grew.drew ?_) | (with_reducible refine Grew.drewN ?_ _) | (with_reducible refine Grew.setRow ?_ (by first | (simp; done) | (simp; omega) | omega) _) | (with_reducible refine Grew.setCell ?_ (by first | (simp; done) | (simp; omega) | omega) _) | ((with_reducible apply Grew.trans); rotate_left; (with_reducible assumption)) | ((with_reducible apply Grew.turn); rotate_left; (with_reducible assumption); (focus (intro i hi; first | omega | (simp at hi; omega)))) | fail)⟩
    · obtain rfl : k = l.length := by omega
      go_wp2_with fail
      go_ret
      exact ⟨ret_int (by rw [List.take_length]), by (repeat' first | (with_reducible exact Grew.refl _) | (with_reducible assumption) | (with_reducible refine Grew.alloc ?_ _) | (with_reducible refine Grew.drew ?_) | (with_reducible refine Grew.drewN ?_ _) | (with_reducible refine Grew.setRow ?_ (by first | (simp; done) | (simp; omega) | omega) _) | (with_reducible refine Grew.setCell ?_ (by first | (simp; done) | (simp; omega) | omega) _) | ((with_reducible apply Grew.trans); rotate_left; (with_reducible assumption)) | ((with_reducible apply Grew.turn); rotate_left; (with_reducible assumption); (focus (intro i hi; first | omega | (simp at hi; omega)))) | fail)⟩
set_option maxRecDepth 100000 in
set_option maxHeartbeats 4000000 in
theorem index_any (t : Int) (t0 : -9223372036854775808 ≤ t) (t1 : t ≤ 9223372036854775807) :
    Calls Try.prog 51 #[.slice A l.length c, .int .i64 t] w fun e w' => e = .returned (.tuple #[.int .i64 (idxS t l 0).1, .bool (idxS t l 0).2]) ∧ Grew w w' := by
  have HR := Lib.hid hr
  clear hr
  go_enter Try.func51, Try.ntmps51
  go_wp2_with fail
  go_loopg [6, 11] l.length (fun gk m i wr => ∃ k n : Nat, k ≤ l.length ∧ gk = l.length - k ∧ i = .int .i64 k ∧ m = .int .i64 n ∧ n ≤ 128 * k ∧ idxS t l 0 = idxS t (l.drop k) n ∧ Grew w wr)
  case atStart => exact ⟨0, 0, by omega, by omega, rfl, rfl, by omega, rfl, by (repeat' first | (with_reducible exact Grew.refl _) | (with_reducible assumption) | (with_reducible refine Grew.alloc ?_ _) | (with_reducible refine Grew.drew ?_) | (with_reducible refine Grew.drewN ?_ _) | (with_reducible refine Grew.setRow ?_ (by first | (simp; done) | (simp; omega) | omega) _) | (with_reducible refine Grew.setCell ?_ (by first | (simp; done) | (simp; omega) | omega) _) | ((with_reducible apply Grew.trans); rotate_left; (with_reducible assumption)) | ((with_reducible apply Grew.turn); rotate_left; (with_reducible assumption); (focus (intro i hi; first | omega | (simp at hi; omega)))) | fail)⟩
  case round =>
    obtain ⟨k, n, hk, hgk, rfl, rfl, hn, hix, hg⟩ := hrel
    have HGK := Lib.hid hgk
    clear hgk
    by_cases hlt : k < l.length
    · obtain ⟨b, off, f, c, rfl, hb, hlk, ⟨f0, f1, c0, c1⟩, x0, x1⟩ := (HR.out.keep hB hg).at_ hlt
      simp only at f0 f1 c0 c1
      have hbs : b < wr.heap.size := by have := hg.size; omega
      have hws := hg.size
      have hle := clipS_le (f, c)
      rw [drop_cons l k hlt, hlk, idxS] at hix
      have HX := Lib.hid hix
      clear hlk hix
      have HC := fun W => Lib.hid (clip_any f c W f0 f1 c0 c1)
      generalize clipS (f, c) = r at *
      obtain ⟨lo, nn⟩ := r
      simp only at hle
      go_wp2_with fail
      refine (HC _).out.mono ?_
      rintro e w1 ⟨rfl, g1⟩
      have hce := g1.cellEq
      have hfe := g1.frozenEq
      have hz1 : wr.heap.size < w1.heap.size := by have := g1.size; simp at this; omega
      by_cases hin : (lo : Int) ≤ t ∧ t < (lo : Int) + nn
      · have HF := Lib.hid (HX.out.trans (if_pos hin))
        obtain ⟨hi1, hi2⟩ := hin
        go_wp2_with fail
        go_ret2
        exact ⟨ret_ib (by rw [HF.out]) (by rw [HF.out]), by (repeat' first | (with_reducible exact Grew.refl _) | (with_reducible assumption) | (with_reducible refine Grew.alloc ?_ _) | (with_reducible refine Grew.drew ?_) | (with_reducible refine Grew.drewN ?_ _) | (with_reducible refine Grew.setRow ?_ (by first | (simp; done) | (simp; omega) | omega) _) | (with_reducible refine Grew.setCell ?_ (by first | (simp; done) | (simp; omega) | omega) _) | ((with_reducible apply Grew.trans); rotate_left; (with_reducible assumption)) | ((with_reducible apply Grew.turn); rotate_left; (with_reducible assumption); (focus (intro i hi; first | omega | (simp at hi; omega)))) | fail)⟩
      · have HF := Lib.hid (HX.out.trans (if_neg hin))
        by_cases hi1 : (lo : Int) ≤ t
        · have hi2 : (lo : Int) + nn ≤ t := by omega
          clear hin
          go_wp2_with fail
          go_roundg (l.length - (k + 1))
          case measure => rw [HGK.out]; omega
          case rel => exact ⟨k + 1, n + nn, by omega, by omega, by go_num, by go_num, by omega, HF.out, by (repeat' first | (with_reducible exact Grew.refl _) | (with_reducible assumption) | (with_reducible refine Grew.alloc ?_ _) | (with_reducible refine Grew.drew ?_) | (with_reducible refine Grew.drewN ?_ _) | (with_reducible refine Grew.setRow ?_ (by first | (simp; done) | (simp; omega) | omega) _) | (with_reducible refine Grew.setCell ?_ (by first | (simp; done) | (simp; omega) | omega) _) | ((with_reducible apply Grew.trans); rotate_left; (with_reducible assumption)) | ((with_reducible apply Grew.turn); rotate_left; (with_reducible assumption); (focus (intro i hi; first | omega | (simp at hi; omega)))) | fail)⟩
        · clear hin
          go_wp2_with fail
          go_roundg (l.length - (k + 1))
          case measure => rw [HGK.out]; omega
          case rel => exact ⟨k + 1, n + nn, by omega, by omega, by go_num, by go_num, by omega, HF.out, by (repeat' first | (with_reducible exact Grew.refl _) | (with_reducible assumption) | (with_reducible refine Grew.alloc ?_ _) | (with_reducible refine Grew.drew ?_) | (with_reducible refine Grew.drewN ?_ _) | (with_reducible refine Grew.setRow ?_ (by first | (simp; done) | (simp; omega) | omega) _) | (with_reducible refine Grew.setCell ?_ (by first | (simp; done) | (simp; omega) | omega) _) | ((with_reducible apply Grew.trans); rotate_left; (with_reducible assumption)) | ((with_reducible apply Grew.turn); rotate_left; (with_reducible assumption); (focus (intro i hi; first | omega | (simp at hi; omega)))) | fail)⟩
    · rw [List.drop_eq_nil_of_le (by omega), idxS] at hix
      have HF := Lib.hid hix
      clear hix
      go_wp2_with fail
      go_ret2
      exact ⟨ret_ib (by rw [HF.out]) (by rw [HF.out]), by (repeat' first | (with_reducible exact Grew.refl _) | (with_reducible assumption) | (with_reducible refine Grew.alloc ?_ _) | (with_reducible refine Grew.drew ?_) | (with_reducible refine Grew.drewN ?_ _) | (with_reducible refine Grew.setRow ?_ (by first | (simp; done) | (simp; omega) | omega) _) | (with_reducible refine Grew.setCell ?_ (by first | (simp; done) | (simp; omega) | omega) _) | ((with_reducible apply Grew.trans); rotate_left; (with_reducible assumption)) | ((with_reducible apply Grew.turn); rotate_left; (with_reducible assumption); (focus (intro i hi; first | omega | (simp at hi; omega)))) | fail)⟩
set_option maxRecDepth 100000 in
set_option maxHeartbeats 4000000 in
theorem contains_any (t : Int) (t0 : -9223372036854775808 ≤ t) (t1 : t ≤ 9223372036854775807) :
    Calls Try.prog 25 #[.slice A l.length c, .int .i64 t] w fun e w' => e = .returned (.bool (idxS t l 0).2) ∧ Grew w w' := by
  go_enter Try.func25, Try.ntmps25
  go_wp2_with fail
  refine (index_any A c l w B hB hl hr t t0 t1).mono ?_
  rintro e w1 ⟨rfl, g1⟩
  go_wp2_with fail
  go_ret
  exact ⟨rfl, g1⟩
end
end Go.Proofs.Ytenbcjlikoajdaa
