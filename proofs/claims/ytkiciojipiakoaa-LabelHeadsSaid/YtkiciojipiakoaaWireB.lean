/- Number's walk (the reference's encoding). -/
import Derived.Test.YtkiciojipiakoaaWireA
import Derived.Deep.RegionWith
import Derived.Deep.RegionHeld3
import Derived.Deep.DrawnRows
namespace Go.Proofs.Ytkiciojipiakoaa
set_option linter.unusedVariables false
set_option linter.unusedSimpArgs false
set_option linter.unusedSectionVars false
open Go.RowKit
attribute [local go_sem ↓] Go.wp_at_zero Go.wp_at_succ

theorem conv1 (W : World) (a : Addr) (x : Int) (h : W.cell? a = some (.int .u8 x)) : (convert 71 9 (.slice (some a) 1 1)).run Try.prog W = .ok (.string ⟨#[UInt8.ofNat x.toNat]⟩) W := by
  rw [run_convert_bytes_string W 71 9 5 (some a) 1 1 Try.underlying71 Try.underlying5 Try.underlying9]
  have hl := run_loadCells_list (P := Try.prog) W a [.int .u8 x] (fun j v hj => by
    cases j with
    | zero => simp at hj; subst hj; simpa [Addr.add] using h
    | succ j => simp at hj)
  rw [run_bytesToString W a 1 1 [x] (by simpa using hl)]
  rfl


set_option maxRecDepth 100000 in
set_option maxHeartbeats 400000 in
theorem number_lo (n : Nat) (w : World) (hn : n < 128) :
    Calls Try.prog 50 #[.int .u64 n] w fun e w' => e = .returned (.string ⟨#[UInt8.ofNat n]⟩) ∧ Grew w w' := by
  have hc := conv1
  go_enter Try.func50, Try.ntmps50
  go_wp2
  go_ret
  exact ⟨rfl, by (repeat' first | (with_reducible exact Grew.refl _) | (with_reducible assumption) | (with_reducible refine Grew.alloc ?_ _) | (with_reducible refine Grew.drew ?_) | (with_reducible refine Grew.drewN ?_ _) | (with_reducible refine Grew.setRow ?_ (by first | (simp; done) | (simp; omega) | omega) _) | (with_reducible refine Grew.setCell ?_ (by first | (simp; done) | (simp; omega) | omega) _) | ((with_reducible apply Grew.trans); rotate_left; (with_reducible assumption)) | ((with_reducible apply Grew.turn); rotate_left; (with_reducible assumption); (focus (intro i hi; first | omega | (simp at hi; omega)))) | fail)⟩
theorem hib_wrap (n : Nat) : IntKind.u8.wrap (IntKind.u64.wrap ((n : Int).tmod 128 + 128)) = ((hib n).toNat : Int) := by
  rw [Int.tmod_eq_emod_of_nonneg (by omega), IntKind.wrap_u64, IntKind.wrap_u8, hib, UInt8.toNat_ofNat']
  omega
theorem div_wrap (n : Nat) (h : n < 18446744073709551616) : IntKind.u64.wrap ((n : Int) / 128) = ((n / 128 : Nat) : Int) := by
  rw [IntKind.wrap_u64]; omega
theorem encF_len (k : Nat) : ∀ n, (encF k n).length ≤ k + 1 := by
  induction k with
  | zero => intro n; simp [encF]
  | succ k ih => intro n; rw [encF]; split
                 · simp
                 · have := ih (n / 128); simp; omega
theorem ofNat_toNat' (b : UInt8) : UInt8.ofNat ((b.toNat : Int)).toNat = b := by simp

set_option maxRecDepth 100000 in
set_option maxHeartbeats 400000 in
theorem number_any (k : Nat) : ∀ (n : Nat) (w : World), k ≤ 100 → n < 128 ^ (k + 1) → n < 18446744073709551616 →
    Calls Try.prog 50 #[.int .u64 n] w fun e w' => e = .returned (.string ⟨(encF k n).toArray⟩) ∧ Grew w w' := by
  induction k with
  | zero => exact fun n w _ h _ => number_lo n w h
  | succ k ih =>
    intro n w hk1 hk hn
    by_cases hlt : n < 128
    · rw [encF, if_pos hlt]
      exact number_lo n w hlt
    · rw [encF, if_neg hlt]
      go_enter Try.func50, Try.ntmps50
      go_wp2_with fail
      have H := fun (W : World) => ih (n / 128) W (by omega) (by rw [Nat.pow_succ] at hk; omega) (by omega)
      have IH := Lib.hid H
      clear H ih
      have hc := conv1
      have hl := encF_len k (n / 128)
      have e1 := hib_wrap n
      have e2 := div_wrap n hn
      go_region_with ((go_at_call 50; refine (IH.out _).mono ?_; rintro e w' ⟨rfl, hb⟩; have hcc := hb.cellEq))
      all_goals (go_wp2; go_ret; exact ⟨rfl, by (repeat' first | (with_reducible exact Grew.refl _) | (with_reducible assumption) | (with_reducible refine Grew.alloc ?_ _) | (with_reducible refine Grew.drew ?_) | (with_reducible refine Grew.drewN ?_ _) | (with_reducible refine Grew.setRow ?_ (by first | (simp; done) | (simp; omega) | omega) _) | (with_reducible refine Grew.setCell ?_ (by first | (simp; done) | (simp; omega) | omega) _) | ((with_reducible apply Grew.trans); rotate_left; (with_reducible assumption)) | ((with_reducible apply Grew.turn); rotate_left; (with_reducible assumption); (focus (intro i hi; first | omega | (simp at hi; omega)))) | fail)⟩)
theorem number_enc (n : Nat) (w : World) (h : n < 18446744073709551616) :
    Calls Try.prog 50 #[.int .u64 n] w fun e w' => e = .returned (.string ⟨(enc n).toArray⟩) ∧ Grew w w' :=
  number_any 9 n w (by omega) (by have : (128 : Nat) ^ (9 + 1) = 1180591620717411303424 := by decide
                                  omega) h
end Go.Proofs.Ytkiciojipiakoaa
