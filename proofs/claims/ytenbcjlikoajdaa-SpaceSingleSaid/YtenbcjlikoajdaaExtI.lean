/- The reference's In, Set, Normal; Valid and Disjoint. -/
import Derived.Test.YtenbcjlikoajdaaExtH
namespace Go.Proofs.Ytenbcjlikoajdaa
set_option linter.unusedVariables false
set_option linter.unusedSimpArgs false
set_option linter.unusedSectionVars false
open Go.RowKit
def inT (l : List (Int × Int)) (t : Int) : Bool := l.any fun r => decide (((clipS r).1 : Int) ≤ t ∧ t < ((clipS r).1 : Int) + (clipS r).2)
theorem inT_nat (l : List (Int × Int)) (i : Nat) : inT l i = memS l i := by
  unfold inT memS
  congr 1
  funext r
  unfold inS
  rw [decide_eq_decide]
  omega
theorem idxS_snd (t : Int) (l : List (Int × Int)) : ∀ n, (idxS t l n).2 = inT l t := by
  induction l with
  | nil => intro n; rfl
  | cons r l ih =>
    intro n
    rw [idxS]
    unfold inT
    rw [List.any_cons]
    split
    · rename_i h; simp [h]
    · rename_i h; rw [ih]; simp [h, inT]
theorem inT_snoc (l : List (Int × Int)) (k : Nat) (h : k < l.length) (t : Int) : inT (l.take (k + 1)) t = (inT (l.take k) t || decide (((clipS l[k]).1 : Int) ≤ t ∧ t < ((clipS l[k]).1 : Int) + (clipS l[k]).2)) := by
  unfold inT
  rw [List.take_succ_eq_append_getElem h, List.any_append]
  simp only [List.any_cons, List.any_nil, Bool.or_false]
theorem inT_mono (l : List (Int × Int)) (k : Nat) (t : Int) (h : inT (l.take k) t = true) : inT l t = true := by
  unfold inT at *
  rw [List.any_eq_true] at *
  obtain ⟨x, hx, h⟩ := h
  exact ⟨x, List.mem_of_mem_take hx, h⟩
section
variable (A : Option Addr) (c : Nat) (l : List (Int × Int)) (w : World) (B : Nat) (hB : B ≤ w.heap.size) (hl : l.length ≤ 1000000) (hr : RunsAt w B A l)
include hB hl hr
set_option maxRecDepth 100000 in
set_option maxHeartbeats 4000000 in
theorem refin_any (t : Int) (t0 : -9223372036854775808 ≤ t) (t1 : t ≤ 9223372036854775807) :
    Calls Try.prog 47 #[.slice A l.length c, .int .i64 t] w fun e w' => e = .returned (.bool (inT l t)) ∧ Grew w w' := by
  have HR := Lib.hid hr
  clear hr
  go_enter Try.func47, Try.ntmps47
  go_wp2_with fail
  go_loopg [5] l.length (fun gk i wr => ∃ k : Nat, k ≤ l.length ∧ gk = l.length - k ∧ i = .int .i64 k ∧ inT (l.take k) t = false ∧ Grew w wr)
  case atStart => exact ⟨0, by omega, by omega, rfl, rfl, by (repeat' first | (with_reducible exact Grew.refl _) | (with_reducible assumption) | (with_reducible refine Grew.alloc ?_ _) | (with_reducible refine Grew.drew ?_) | (with_reducible refine Grew.drewN ?_ _) | (with_reducible refine Grew.setRow ?_ (by first | (simp; done) | (simp; omega) | omega) _) | (with_reducible refine Grew.setCell ?_ (by first | (simp; done) | (simp; omega) | omega) _) | ((with_reducible apply Grew.trans); rotate_left; (with_reducible assumption)) | ((with_reducible apply Grew.turn); rotate_left; (with_reducible assumption); (focus (intro i hi; first | omega | (simp at hi; omega)))) | fail)⟩
  case round =>
    obtain ⟨k, hk, hgk, rfl, hix, hg⟩ := hrel
    have HGK := Lib.hid hgk
    have HI := Lib.hid hix
    clear hgk hix
    by_cases hlt : k < l.length
    · obtain ⟨b, off, f, c, rfl, hb, hlk, ⟨f0, f1, c0, c1⟩, x0, x1⟩ := (HR.out.keep hB hg).at_ hlt
      simp only at f0 f1 c0 c1
      have hbs : b < wr.heap.size := by have := hg.size; omega
      have hws := hg.size
      have hle := clipS_le (f, c)
      have hsn := inT_snoc l k hlt t
      rw [hlk, HI.out, Bool.false_or] at hsn
      have HX := Lib.hid hsn
      clear hlk hsn
      have HC := fun W => Lib.hid (refclip_any f c W f0 f1 c0 c1)
      generalize clipS (f, c) = r at *
      obtain ⟨lo, nn⟩ := r
      simp only at hle
      go_wp2_with fail
      refine (HC _).out.mono ?_
      rintro e w1 ⟨rfl, g1⟩
      have hw1 := g1.size
      by_cases hin : (lo : Int) ≤ t ∧ t < (lo : Int) + nn
      · have HF := Lib.hid (inT_mono l (k + 1) t (by rw [HX.out]; simpa using hin))
        obtain ⟨hi1, hi2⟩ := hin
        go_wp2_with fail
        go_ret
        exact ⟨ret_bool (by rw [HF.out]), by (repeat' first | (with_reducible exact Grew.refl _) | (with_reducible assumption) | (with_reducible refine Grew.alloc ?_ _) | (with_reducible refine Grew.drew ?_) | (with_reducible refine Grew.drewN ?_ _) | (with_reducible refine Grew.setRow ?_ (by first | (simp; done) | (simp; omega) | omega) _) | (with_reducible refine Grew.setCell ?_ (by first | (simp; done) | (simp; omega) | omega) _) | ((with_reducible apply Grew.trans); rotate_left; (with_reducible assumption)) | ((with_reducible apply Grew.turn); rotate_left; (with_reducible assumption); (focus (intro i hi; first | omega | (simp at hi; omega)))) | fail)⟩
      · have HF := Lib.hid (HX.out.trans (decide_eq_false hin))
        by_cases hi1 : (lo : Int) ≤ t
        · have hi2 : (lo : Int) + nn ≤ t := by omega
          clear hin
          go_wp2_with fail
          go_roundg (l.length - (k + 1))
          case measure => rw [HGK.out]; omega
          case rel => exact ⟨k + 1, by omega, by omega, by go_num, HF.out, by (repeat' first | (with_reducible exact Grew.refl _) | (with_reducible assumption) | (with_reducible refine Grew.alloc ?_ _) | (with_reducible refine Grew.drew ?_) | (with_reducible refine Grew.drewN ?_ _) | (with_reducible refine Grew.setRow ?_ (by first | (simp; done) | (simp; omega) | omega) _) | (with_reducible refine Grew.setCell ?_ (by first | (simp; done) | (simp; omega) | omega) _) | ((with_reducible apply Grew.trans); rotate_left; (with_reducible assumption)) | ((with_reducible apply Grew.turn); rotate_left; (with_reducible assumption); (focus (intro i hi; first | omega | (simp at hi; omega)))) | fail)⟩
        · clear hin
          go_wp2_with fail
          go_roundg (l.length - (k + 1))
          case measure => rw [HGK.out]; omega
          case rel => exact ⟨k + 1, by omega, by omega, by go_num, HF.out, by (repeat' first | (with_reducible exact Grew.refl _) | (with_reducible assumption) | (with_reducible refine Grew.alloc ?_ _) | (with_reducible refine Grew.drew ?_) | (with_reducible refine Grew.drewN ?_ _) | (with_reducible refine Grew.setRow ?_ (by first | (simp; done) | (simp; omega) | omega) _) | (with_reducible refine Grew.setCell ?_ (by first | (simp; done) | (simp; omega) | omega) _) | ((with_reducible apply Grew.trans); rotate_left; (with_reducible assumption)) | ((with_reducible apply Grew.turn); rotate_left; (with_reducible assumption); (focus (intro i hi; first | omega | (simp at hi; omega)))) | fail)⟩
    · obtain rfl : k = l.length := by omega
      go_wp2_with fail
      go_ret
      exact ⟨ret_bool (by rw [← HI.out, List.take_length]), by (repeat' first | (with_reducible exact Grew.refl _) | (with_reducible assumption) | (with_reducible refine Grew.alloc ?_ _) | (with_reducible refine Grew.drew ?_) | (with_reducible refine Grew.drewN ?_ _) | (with_reducible refine Grew.setRow ?_ (by first | (simp; done) | (simp; omega) | omega) _) | (with_reducible refine Grew.setCell ?_ (by first | (simp; done) | (simp; omega) | omega) _) | ((with_reducible apply Grew.trans); rotate_left; (with_reducible assumption)) | ((with_reducible apply Grew.turn); rotate_left; (with_reducible assumption); (focus (intro i hi; first | omega | (simp at hi; omega)))) | fail)⟩
set_option maxRecDepth 100000 in
set_option maxHeartbeats 4000000 in
theorem valid_any : Calls Try.prog 24 #[.slice A l.length c] w fun e w' => e = .returned (.bool (decide (l = ints (normS (memS l))))) ∧ Grew w w' := by
  go_enter Try.func24, Try.ntmps24
  go_wp2_with fail
  refine (normal_any A c l w B hB hl hr).mono ?_
  rintro e w1 ⟨v, rfl, hown, g1⟩
  obtain ⟨A', c', hv, hr'⟩ := own_runs hown (fun r hr => Nat.le_trans (normTo_bd _ _ r hr) (by omega))
  subst hv
  have hle : (normS (memS l)).length ≤ 128 := normTo_len _ _
  have hrk := hr.keep hB g1
  go_wp2_with fail
  refine (equal_any A A' c c' l _ w1 w1.heap.size (Nat.le_refl _) hl (by rw [ints_len]; omega) ⟨hrk.1, hrk.2.mono (by have := g1.size; omega)⟩ hr').mono ?_
  rintro e w2 ⟨rfl, g2⟩
  go_wp2_with fail
  go_ret
  exact ⟨rfl, g1.trans g2⟩
set_option maxRecDepth 100000 in
set_option maxHeartbeats 4000000 in
theorem disjoint_any : Calls Try.prog 21 #[.slice A l.length c] w fun e w' => e = .returned (.bool ((sizeS l : Int) == (sizeS (ints (normS (memS l))) : Int))) ∧ Grew w w' := by
  go_enter Try.func21, Try.ntmps21
  go_wp2_with fail
  refine (size_any A c l w B hB hl hr).mono ?_
  rintro e w1 ⟨rfl, g1⟩
  go_wp2_with fail
  refine (normal_any A c l w1 B (Nat.le_trans hB g1.size) hl (hr.keep hB g1)).mono ?_
  rintro e w2 ⟨v, rfl, hown, g2⟩
  obtain ⟨A', c', hv, hr'⟩ := own_runs hown (fun r hr => Nat.le_trans (normTo_bd _ _ r hr) (by omega))
  subst hv
  have hle : (normS (memS l)).length ≤ 128 := normTo_len _ _
  go_wp2_with fail
  refine (size_any A' c' _ w2 w2.heap.size (Nat.le_refl _) (by rw [ints_len]; omega) hr').mono ?_
  rintro e w3 ⟨rfl, g3⟩
  go_wp2_with fail
  go_ret
  exact ⟨rfl, g1.trans (g2.trans g3)⟩
end
end Go.Proofs.Ytenbcjlikoajdaa
