/- Plain facts on the encoding of numbers, and AppendNumber's walk. -/
import Derived.Test.YtkiciojipiakoaaFrame
import Derived.WalkKit
import Derived.WalkSpells
import Derived.WalkLawsBesides
import Derived.Handy
import Derived.Lib.Hide
namespace Go.Proofs.Ytkiciojipiakoaa
set_option linter.unusedVariables false
set_option linter.unusedSimpArgs false
set_option linter.unusedSectionVars false
open Go.RowKit

def hib (m : Nat) : UInt8 := UInt8.ofNat (m % 128 + 128)
def encF : Nat → Nat → List UInt8
  | 0, n => [UInt8.ofNat n]
  | k + 1, n => if n < 128 then [UInt8.ofNat n] else hib n :: encF k (n / 128)
def enc (n : Nat) : List UInt8 := encF 9 n
def bcell (b : UInt8) : Value := .int .u8 (b.toNat : Int)
def lim (k : Nat) : Nat := 128 ^ (10 - k)
theorem lim_succ (k : Nat) (h : k < 10) : lim k = 128 * lim (k + 1) := by
  unfold lim
  rw [show 10 - k = (10 - (k + 1)) + 1 from by omega, Nat.pow_succ, Nat.mul_comm]
theorem lim_0 : lim 0 = 1180591620717411303424 := by decide
theorem lim_9 : lim 9 = 128 := by decide
def AppInv (n k m : Nat) (pre : List UInt8) : Prop := pre.length = k ∧ m < lim k ∧ enc n = pre ++ encF (9 - k) m
theorem app_start (n : Nat) (h : n < 18446744073709551616) : AppInv n 0 n [] := ⟨rfl, by rw [lim_0]; omega, rfl⟩
theorem app_k (n k m : Nat) (pre : List UInt8) (h : AppInv n k m pre) (hk : k ≤ 9) (hm : 128 ≤ m) : k < 9 := by
  rcases Nat.lt_or_ge k 9 with h9 | h9
  · exact h9
  · have e : k = 9 := by omega
    subst e
    have := h.2.1
    rw [lim_9] at this
    omega
theorem app_step (n k m : Nat) (pre : List UInt8) (h : AppInv n k m pre) (hk : k < 9) (hm : 128 ≤ m) : AppInv n (k + 1) (m / 128) (pre ++ [hib m]) := by
  obtain ⟨h1, h2, h3⟩ := h
  refine ⟨by simp [h1], ?_, ?_⟩
  · rw [lim_succ k (by omega)] at h2
    omega
  · rw [h3, show 9 - k = (9 - (k + 1)) + 1 from by omega, encF, if_neg (by omega), List.append_assoc]
    rfl
theorem app_end (n k m : Nat) (pre : List UInt8) (h : AppInv n k m pre) (hm : m < 128) : enc n = pre ++ [UInt8.ofNat m] := by
  obtain ⟨h1, h2, h3⟩ := h
  rw [h3]
  cases 9 - k with
  | zero => rfl
  | succ j => rw [encF, if_pos hm]
def arr (pre : List UInt8) : Array Value := (pre.map bcell ++ List.replicate (10 - pre.length) (Value.int .u8 0)).toArray
theorem arr_size (pre : List UInt8) (h : pre.length ≤ 10) : (arr pre).size = 10 := by simp [arr]; omega
theorem arr_next (pre : List UInt8) (k : Nat) (hk : pre.length = k) (h : k < 10) : (arr pre)[k]? = some (.int .u8 0) := by
  subst hk
  rw [arr, List.getElem?_toArray, List.getElem?_append_right (by simp), List.getElem?_replicate, if_pos (by simp; omega)]
theorem arr_set (pre : List UInt8) (k : Nat) (hk : pre.length = k) (h : k < 10) (b : UInt8) : (arr pre).setIfInBounds k (bcell b) = arr (pre ++ [b]) := by
  subst hk
  simp only [arr, List.setIfInBounds_toArray, List.map_append, List.map_cons, List.map_nil, List.append_assoc, List.length_append, List.length_cons, List.length_nil]
  congr 1
  rw [List.set_append]
  simp
  rw [show 10 - pre.length = (9 - pre.length) + 1 from by omega, List.replicate_succ, List.set_cons_zero]
theorem arr_get (pre : List UInt8) (j : Nat) (hj : j < pre.length) : (arr pre)[j]? = some (bcell pre[j]) := by
  simp [arr, List.getElem?_append_left, hj]
theorem or128 (m : Nat) : bits BinOp.or IntKind.u8 ((m : Int) % 256) 128 = ((hib m).toNat : Int) := by
  have h : ∀ x : Fin 256, bits BinOp.or IntKind.u8 ((x.val : Nat) : Int) 128 = ((UInt8.ofNat (x.val % 128 + 128)).toNat : Int) := by decide +kernel
  have h1 := h ⟨m % 256, Nat.mod_lt _ (by omega)⟩
  simp only at h1
  rw [show (m : Int) % 256 = ((m % 256 : Nat) : Int) from by omega, h1, Nat.mod_mod_of_dvd _ (by decide)]; rfl
theorem conv_row {P : Program} (W : World) (src dst e : TypeId) (g cap n : Nat) (l : List UInt8) (cs : Array Value) (t : TypeId) (hs : P.underlying src = some (.slice e)) (he : P.underlying e = some (.int .u8)) (hd : P.underlying dst = some .string)
    (hn : n = l.length) (h : W.heap[g]? = some (.cells cs t (0, 0))) (hc : ∀ j (hj : j < l.length), cs[j]? = some (bcell l[j])) :
    (convert src dst (.slice (some ⟨g, 0, none⟩) n cap)).run P W = .ok (.string ⟨l.toArray⟩) W := by
  subst hn
  refine run_convert_bytes_back W src dst e ⟨g, 0, none⟩ cap l hs he hd ?_
  intro j hj
  have : (⟨g, 0, none⟩ : Addr).add j = ⟨g, j, none⟩ := by unfold Addr.add; split <;> simp_all
  rw [this, cell_of_row W g j cs t (0, 0) h, hc j hj]
  rfl

theorem slice10 (W : World) (a : Addr) (k : Nat) (hk : k ≤ 9) : (Instr.sliceAt 72 (.pointer (some a)) none (some (.int .i64 ((k : Int) + 1))) none).run Try.prog W = .ok (.slice (some a) (k + 1) 10) W := by
  have hal : Try.prog.arrayLen 72 = 10 := by kernel_rfl
  rw [run_sliceAt_array_h W 72 a (by kernel_rfl) .i64 ((k : Int) + 1) (by omega) (by rw [hal]; omega)]
  rw [hal]
  have hz : (sizeOf (Try.prog.elem 72)).run Try.prog W = .ok 1 W := by kernel_rfl
  rw [hz]
  simp only [Result.andThen, slicedAt]
  have e : ((k : Int) + 1).toNat = k + 1 := by omega
  rw [e]
  simp [Addr.add]

set_option maxRecDepth 100000 in
set_option maxHeartbeats 400000 in
theorem appendNumber_any (s : ByteArray) (n : Nat) (w : World) (hn : n < 18446744073709551616) (hs : s.size ≤ 1000000) :
    Calls Try.prog 47 #[.string s, .int .u64 n] w fun e w' => e = .returned (.string (s ++ ⟨(enc n).toArray⟩)) ∧ Grew w w' := by
  go_enter Try.func47, Try.ntmps47
  go_wp2
  go_loopw [1, 6] (fun a b wr => ∃ (k m : Nat) (pre : List UInt8), k ≤ 9 ∧ m < 18446744073709551616 ∧ a = .int .u64 m ∧ b = .int .i64 k ∧ wr = w.alloc (.cells (arr pre) 72) ∧ AppInv n k m pre) (fun _ b _ => 10 - (intOf b).toNat)
  case atStart => exact ⟨0, n, [], by omega, hn, rfl, rfl, rfl, app_start n hn⟩
  case round =>
    obtain ⟨k, m, pre, hk, hm, rfl, rfl, rfl, hinv⟩ := hrel
    have hsz := arr_size pre (by have := hinv.1; omega)
    have hcell := arr_next pre k hinv.1 (by omega)
    by_cases hlt : m < 128
    · have hend := app_end n k m pre hinv hlt
      have hlen : (enc n).length = k + 1 := by rw [hend]; simp [hinv.1]
      have hset : (arr pre).setIfInBounds k (.int .u8 m) = arr (enc n) := by
        rw [hend, ← arr_set pre k hinv.1 (by omega) (UInt8.ofNat m), bcell, UInt8.toNat_ofNat', Nat.mod_eq_of_lt (by omega)]
      have hconv : (convert 71 9 (.slice (some ⟨w.heap.size, 0, none⟩) (k + 1) 10)).run Try.prog (w.alloc (.cells (arr (enc n)) 72)) = .ok (.string ⟨(enc n).toArray⟩) (w.alloc (.cells (arr (enc n)) 72)) :=
        conv_row _ 71 9 5 _ 10 (k + 1) (enc n) (arr (enc n)) 72 Try.underlying71 Try.underlying5 Try.underlying9 hlen.symm (heap_alloc_new w _) (fun j hj => arr_get (enc n) j hj)
      have hel : (enc n).length ≤ 10 := by omega
      have hsl := fun W => slice10 W ⟨w.heap.size, 0, none⟩ k hk
      have hE := Lib.hid hend
      have hL := Lib.hid hlen
      clear hend hlen
      go_wp2
      go_ret
      exact ⟨rfl, by (repeat' first | (with_reducible exact Grew.refl _) | (with_reducible assumption) | (with_reducible refine Grew.alloc ?_ _) | (with_reducible refine Grew.drew ?_) | (with_reducible refine Grew.drewN ?_ _) | (with_reducible refine Grew.setRow ?_ (by first | (simp; done) | (simp; omega) | omega) _) | (with_reducible refine Grew.setCell ?_ (by first | (simp; done) | (simp; omega) | omega) _) | ((with_reducible apply Grew.trans); rotate_left; (with_reducible assumption)) | ((with_reducible apply Grew.turn); rotate_left; (with_reducible assumption); (focus (intro i hi; first | omega | (simp at hi; omega)))) | fail)⟩
    · have h9 := app_k n k m pre hinv hk (by omega)
      have hst : (arr pre).setIfInBounds k (.int .u8 (bits BinOp.or IntKind.u8 ((m : Int) % 256) 128)) = arr (pre ++ [hib m]) := by
        rw [← arr_set pre k hinv.1 (by omega), bcell, or128]
      go_wp2
      go_roundw
      case rel => exact ⟨k + 1, m / 128, _, by omega, by omega, by go_num, by go_num, rfl, app_step n k m pre hinv h9 (by omega)⟩
      case measure => simp [intOf]; omega
end Go.Proofs.Ytkiciojipiakoaa
