/- Chapter 7: Valid. Chapter 7: the reference's Valid. Plain facts on the encoding of numbers, and AppendNumber's walk. Number's walk (the reference's encoding). The other appends. decode's walk. The reader's methods. The reader's methods, built on Number. The reference's readers. Plain facts: what is encoded is decoded, and the other way round. Chapter 7: fill, Padded, Zero. Chapter 7: the encodings of labels. Chapter 7, plain: different labels have different encodings. -/
import Derived.WalkKit
import Derived.WalkSpells
import Derived.WalkLawsBesides
import Derived.Handy
import Derived.Lib.Hide
import Derived.Deep.RegionWith
import Derived.Deep.RegionHeld3
import Derived.Deep.DrawnRows
import Derived.PlainAid
import Derived.RegionTactic
import Derived.ChangeAlike
import Derived.OwnWalk
import Derived.IntWalk
import Derived.Lib.Strings
import Derived.Test.YtnlaogneceanoaaCrA
import Derived.Test.YtnlaogneceanoaaCrC
namespace Go.Proofs.Ytnlaogneceanoaa
set_option linter.unusedVariables false
set_option linter.unusedSimpArgs false
set_option linter.unusedSectionVars false
open Go.RowKit
set_option maxRecDepth 100000 in
set_option maxHeartbeats 4000000 in
theorem valid_lab (A : Option Addr) (c : Nat) (l : Lab) (t : Int) (w : World) (h : LabAt w A c l) (hs : l.ext.length ≤ 100000) :
    Calls Try.prog 43 #[.agg #[.int .i64 l.id, .int .i64 l.unit, .string l.name, .string l.note, .slice A l.ext.length c], .int .i64 t] w fun e w' => e = .returned (.bool (validL l t)) ∧ Grew w w' := by
  have HL := Lib.hid h
  have HF := Lib.hid (valid_false l t)
  have HT := Lib.hid (valid_true l t)
  have hns := h.name
  have hts := h.note
  clear h
  go_enter Try.func43, Try.ntmps43
  go_wp2_with fail
  refine (table_any _ _).mono ?_
  rintro e w1 ⟨rfl, rfl⟩
  go_wp2_with fail
  have HB1 := Lib.hid ((((Blk.new w 24 #[.int .i64 l.id, .int .i64 l.unit, .string l.name, .string l.note, .slice A l.ext.length c] rfl).alloc (.cells #[.int .i64 t] 3)).alloc (.cells #[.int .i64 (ttS t)] 3)).alloc (.cells #[.func (.func 72) #[] #[.pointer (some ⟨w.heap.size + 1, 0, none⟩)], .func (.func 73) #[] #[.pointer (some ⟨w.heap.size, 0, none⟩)], .func (.func 74) #[] #[.pointer (some ⟨w.heap.size, 0, none⟩)], .func (.func 75) #[] #[.pointer (some ⟨w.heap.size, 0, none⟩)], .func (.func 76) #[] #[.pointer (some ⟨w.heap.size, 0, none⟩)], .func (.func 79) #[] #[.pointer (some ⟨w.heap.size, 0, none⟩), .pointer (some ⟨w.heap.size + 1 + 1, 0, none⟩), .pointer (some ⟨w.heap.size + 1, 0, none⟩)]] 25))
  have HB2 := Lib.hid (((Blk.new (w.alloc (.cells #[.int .i64 l.id, .int .i64 l.unit, .string l.name, .string l.note, .slice A l.ext.length c] 24)) 3 #[.int .i64 t] (n := w.heap.size + 1) (by simp)).alloc (.cells #[.int .i64 (ttS t)] 3)).alloc (.cells #[.func (.func 72) #[] #[.pointer (some ⟨w.heap.size + 1, 0, none⟩)], .func (.func 73) #[] #[.pointer (some ⟨w.heap.size, 0, none⟩)], .func (.func 74) #[] #[.pointer (some ⟨w.heap.size, 0, none⟩)], .func (.func 75) #[] #[.pointer (some ⟨w.heap.size, 0, none⟩)], .func (.func 76) #[] #[.pointer (some ⟨w.heap.size, 0, none⟩)], .func (.func 79) #[] #[.pointer (some ⟨w.heap.size, 0, none⟩), .pointer (some ⟨w.heap.size + 1 + 1, 0, none⟩), .pointer (some ⟨w.heap.size + 1, 0, none⟩)]] 25))
  have HB3 := Lib.hid ((Blk.new ((w.alloc (.cells #[.int .i64 l.id, .int .i64 l.unit, .string l.name, .string l.note, .slice A l.ext.length c] 24)).alloc (.cells #[.int .i64 t] 3)) 3 #[.int .i64 (ttS t)] (n := w.heap.size + 1 + 1) (by simp)).alloc (.cells #[.func (.func 72) #[] #[.pointer (some ⟨w.heap.size + 1, 0, none⟩)], .func (.func 73) #[] #[.pointer (some ⟨w.heap.size, 0, none⟩)], .func (.func 74) #[] #[.pointer (some ⟨w.heap.size, 0, none⟩)], .func (.func 75) #[] #[.pointer (some ⟨w.heap.size, 0, none⟩)], .func (.func 76) #[] #[.pointer (some ⟨w.heap.size, 0, none⟩)], .func (.func 79) #[] #[.pointer (some ⟨w.heap.size, 0, none⟩), .pointer (some ⟨w.heap.size + 1 + 1, 0, none⟩), .pointer (some ⟨w.heap.size + 1, 0, none⟩)]] 25))
  have HB4 := Lib.hid (Blk.new (((w.alloc (.cells #[.int .i64 l.id, .int .i64 l.unit, .string l.name, .string l.note, .slice A l.ext.length c] 24)).alloc (.cells #[.int .i64 t] 3)).alloc (.cells #[.int .i64 (ttS t)] 3)) 25 #[.func (.func 72) #[] #[.pointer (some ⟨w.heap.size + 1, 0, none⟩)], .func (.func 73) #[] #[.pointer (some ⟨w.heap.size, 0, none⟩)], .func (.func 74) #[] #[.pointer (some ⟨w.heap.size, 0, none⟩)], .func (.func 75) #[] #[.pointer (some ⟨w.heap.size, 0, none⟩)], .func (.func 76) #[] #[.pointer (some ⟨w.heap.size, 0, none⟩)], .func (.func 79) #[] #[.pointer (some ⟨w.heap.size, 0, none⟩), .pointer (some ⟨w.heap.size + 1 + 1, 0, none⟩), .pointer (some ⟨w.heap.size + 1, 0, none⟩)]] (n := w.heap.size + 1 + 1 + 1) (by simp))
  have HG0 := Lib.hid ((((Grew.refl w).alloc (.cells #[.int .i64 l.id, .int .i64 l.unit, .string l.name, .string l.note, .slice A l.ext.length c] 24)).alloc (.cells #[.int .i64 t] 3)).alloc (.cells #[.int .i64 (ttS t)] 3) |>.alloc (.cells #[.func (.func 72) #[] #[.pointer (some ⟨w.heap.size + 1, 0, none⟩)], .func (.func 73) #[] #[.pointer (some ⟨w.heap.size, 0, none⟩)], .func (.func 74) #[] #[.pointer (some ⟨w.heap.size, 0, none⟩)], .func (.func 75) #[] #[.pointer (some ⟨w.heap.size, 0, none⟩)], .func (.func 76) #[] #[.pointer (some ⟨w.heap.size, 0, none⟩)], .func (.func 79) #[] #[.pointer (some ⟨w.heap.size, 0, none⟩), .pointer (some ⟨w.heap.size + 1 + 1, 0, none⟩), .pointer (some ⟨w.heap.size + 1, 0, none⟩)]] 25))
  obtain ⟨w0, hw0⟩ : ∃ w0, w0 = ((((w.alloc (.cells #[.int .i64 l.id, .int .i64 l.unit, .string l.name, .string l.note, .slice A l.ext.length c] 24)).alloc (.cells #[.int .i64 t] 3)).alloc (.cells #[.int .i64 (ttS t)] 3)).alloc (.cells #[.func (.func 72) #[] #[.pointer (some ⟨w.heap.size + 1, 0, none⟩)], .func (.func 73) #[] #[.pointer (some ⟨w.heap.size, 0, none⟩)], .func (.func 74) #[] #[.pointer (some ⟨w.heap.size, 0, none⟩)], .func (.func 75) #[] #[.pointer (some ⟨w.heap.size, 0, none⟩)], .func (.func 76) #[] #[.pointer (some ⟨w.heap.size, 0, none⟩)], .func (.func 79) #[] #[.pointer (some ⟨w.heap.size, 0, none⟩), .pointer (some ⟨w.heap.size + 1 + 1, 0, none⟩), .pointer (some ⟨w.heap.size + 1, 0, none⟩)]] 25)) := ⟨_, rfl⟩
  rw [← hw0] at HB1 HB2 HB3 HB4 HG0 ⊢
  clear hw0
  go_loopg [20] 6 (fun gk i wr => ∃ k : Nat, k ≤ 6 ∧ gk = 6 - k ∧ i = .int .i64 k ∧ (∀ j, j < k → condS l t j = true) ∧ Grew w0 wr)
  case atStart => exact ⟨0, by omega, by omega, rfl, fun j h => by omega, Grew.refl _⟩
  case round =>
    obtain ⟨k, hk, hgk, rfl, hall, hg⟩ := hrel
    have HGK := Lib.hid hgk
    have HA := Lib.hid hall
    have HG := Lib.hid hg
    have HL5 := Lib.hid (HL.out.hold (HG0.out.trans hg))
    have b4 := HB4.out.grew hg
    have hb4 := b4.lt
    have HX1 := Lib.hid (HB1.out.grew hg)
    have HX2 := Lib.hid (HB2.out.grew hg)
    have HX3 := Lib.hid (HB3.out.grew hg)
    have HNX := Lib.hid (show condS l t k = true → ∀ j, j < k + 1 → condS l t j = true from fun h j hj => by
      by_cases hjk : j = k
      · rw [hjk]; exact h
      · exact hall j (by omega))
    clear hgk hall hg
    by_cases hlt : k < 6
    · rcases (show k = 0 ∨ k = 1 ∨ k = 2 ∨ k = 3 ∨ k = 4 ∨ k = 5 by omega) with rfl | rfl | rfl | rfl | rfl | rfl
      · have x0 := b4.cell 0
        have HC := Lib.hid (cond0_any (w.heap.size + 1) wr t HX2.out)
        clear b4
        go_wp2_with fail
        refine HC.out.mono ?_
        rintro e w5 ⟨rfl, g5⟩
        cases hx : okT t with
        | false =>
          have HFF := Lib.hid (HF.out 0 hx)
          clear hx
          go_wp2_with fail
          go_ret
          exact ⟨ret_bool (by rw [HFF.out]), (HG0.out.trans HG.out).trans g5⟩
        | true =>
          have HNN := Lib.hid (HNX.out hx)
          clear hx
          go_wp2_with fail
          go_roundg (6 - (0 + 1))
          case measure => rw [HGK.out]; omega
          case rel => exact ⟨0 + 1, by omega, by omega, by go_num, HNN.out, HG.out.trans g5⟩
      · have x0 := b4.cell 1
        have HC := Lib.hid (cond1_any A c l w.heap.size wr HX1.out)
        clear b4
        go_wp2_with fail
        refine HC.out.mono ?_
        rintro e w5 ⟨rfl, g5⟩
        cases hx : idB l with
        | false =>
          have HFF := Lib.hid (HF.out 1 hx)
          clear hx
          go_wp2_with fail
          go_ret
          exact ⟨ret_bool (by rw [HFF.out]), (HG0.out.trans HG.out).trans g5⟩
        | true =>
          have HNN := Lib.hid (HNX.out hx)
          clear hx
          go_wp2_with fail
          go_roundg (6 - (1 + 1))
          case measure => rw [HGK.out]; omega
          case rel => exact ⟨1 + 1, by omega, by omega, by go_num, HNN.out, HG.out.trans g5⟩
      · have x0 := b4.cell 2
        have HC := Lib.hid (cond2_any A c l w.heap.size wr hns hts HX1.out)
        clear b4
        go_wp2_with fail
        refine HC.out.mono ?_
        rintro e w5 ⟨rfl, g5⟩
        cases hx : txB l with
        | false =>
          have HFF := Lib.hid (HF.out 2 hx)
          clear hx
          go_wp2_with fail
          go_ret
          exact ⟨ret_bool (by rw [HFF.out]), (HG0.out.trans HG.out).trans g5⟩
        | true =>
          have HNN := Lib.hid (HNX.out hx)
          clear hx
          go_wp2_with fail
          go_roundg (6 - (2 + 1))
          case measure => rw [HGK.out]; omega
          case rel => exact ⟨2 + 1, by omega, by omega, by go_num, HNN.out, HG.out.trans g5⟩
      · have x0 := b4.cell 3
        have HC := Lib.hid (cond3_any A c l w.heap.size wr (by omega) HX1.out)
        clear b4
        go_wp2_with fail
        refine HC.out.mono ?_
        rintro e w5 ⟨rfl, g5⟩
        cases hx : cnB l with
        | false =>
          have HFF := Lib.hid (HF.out 3 hx)
          clear hx
          go_wp2_with fail
          go_ret
          exact ⟨ret_bool (by rw [HFF.out]), (HG0.out.trans HG.out).trans g5⟩
        | true =>
          have HNN := Lib.hid (HNX.out hx)
          clear hx
          go_wp2_with fail
          go_roundg (6 - (3 + 1))
          case measure => rw [HGK.out]; omega
          case rel => exact ⟨3 + 1, by omega, by omega, by go_num, HNN.out, HG.out.trans g5⟩
      · have x0 := b4.cell 4
        have HC := Lib.hid (cond4_any A c l w.heap.size wr HL5.out hs HX1.out)
        clear b4
        go_wp2_with fail
        refine HC.out.mono ?_
        rintro e w5 ⟨rfl, g5⟩
        cases hx : jnB l with
        | false =>
          have HFF := Lib.hid (HF.out 4 hx)
          clear hx
          go_wp2_with fail
          go_ret
          exact ⟨ret_bool (by rw [HFF.out]), (HG0.out.trans HG.out).trans g5⟩
        | true =>
          have HNN := Lib.hid (HNX.out hx)
          clear hx
          go_wp2_with fail
          go_roundg (6 - (4 + 1))
          case measure => rw [HGK.out]; omega
          case rel => exact ⟨4 + 1, by omega, by omega, by go_num, HNN.out, HG.out.trans g5⟩
      · have x0 := b4.cell 5
        have HC := Lib.hid (cond5_any A c l t w.heap.size (w.heap.size + 1 + 1) (w.heap.size + 1) wr HL5.out hs (HA.out 4 (by omega)) HX1.out HX3.out HX2.out)
        clear b4
        go_wp2_with fail
        refine HC.out.mono ?_
        rintro e w5 ⟨rfl, g5⟩
        cases hx : inB l t with
        | false =>
          have HFF := Lib.hid (HF.out 5 hx)
          clear hx
          go_wp2_with fail
          go_ret
          exact ⟨ret_bool (by rw [HFF.out]), (HG0.out.trans HG.out).trans g5⟩
        | true =>
          have HNN := Lib.hid (HNX.out hx)
          clear hx
          go_wp2_with fail
          go_roundg (6 - (5 + 1))
          case measure => rw [HGK.out]; omega
          case rel => exact ⟨5 + 1, by omega, by omega, by go_num, HNN.out, HG.out.trans g5⟩
    · have HAT := Lib.hid (HT.out (fun j hj => HA.out j (by omega)))
      clear b4
      go_wp2_with fail
      go_ret
      exact ⟨ret_bool (by rw [HAT.out]), HG0.out.trans HG.out⟩
end Go.Proofs.Ytnlaogneceanoaa
namespace Go.Proofs.Ytnlaogneceanoaa
set_option linter.unusedVariables false
set_option linter.unusedSimpArgs false
set_option linter.unusedSectionVars false
open Go.RowKit
attribute [local go_sem ↓] Go.wp_at_zero Go.wp_at_succ
def rokR (t : Int) (r : Int × Int) : Prop := ttS t ≤ r.1 ∧ r.1 < t ∧ 1 ≤ r.2 ∧ r.2 ≤ t - r.1
theorem stepJ_pos (acc : List (Nat × Nat)) (r : Nat × Nat) (h : ∀ x ∈ acc, 0 < x.2) : ∀ x ∈ stepJ acc r, 0 < x.2 := by
  intro x hx
  unfold stepJ at hx
  split at hx
  · exact h x hx
  · rename_i hr
    split at hx
    · rcases List.mem_or_eq_of_mem_set hx with hx | rfl
      · exact h x hx
      · show 0 < _ + r.2
        omega
    · rcases List.mem_append.1 hx with hx | hx
      · exact h x hx
      · rw [List.mem_singleton.1 hx]
        omega
theorem joinS_pos (l : List (Int × Int)) : ∀ x ∈ joinS l, 0 < x.2 := by
  have key : ∀ (l : List (Int × Int)) (acc : List (Nat × Nat)), (∀ x ∈ acc, 0 < x.2) → ∀ x ∈ l.foldl (fun acc x => stepJ acc (clipS x)) acc, 0 < x.2 := by
    intro l
    induction l with
    | nil => intro acc h; exact h
    | cons r l ih => intro acc h; exact ih _ (stepJ_pos acc _ h)
  exact key l [] (by simp)
theorem rok_of (l : Lab) (t : Int) (hj : jnB l = true) (hi : inB l t = true) : ∀ r ∈ l.ext, rokR t r := by
  intro r hr
  have h1 : badR t r = false := by
    unfold inB at hi
    rw [Bool.not_eq_true', List.any_eq_false] at hi
    simpa using hi r hr
  have h2 : ¬ (r.1 < ttS t) ∧ ¬ (t < r.1 + r.2) := by
    unfold badR at h1
    simpa using h1
  unfold jnB at hj
  rw [Bool.and_eq_true, decide_eq_true_eq] at hj
  rw [← hj.1] at hr
  obtain ⟨x, hx, rfl⟩ := List.mem_map.1 hr
  have := joinS_pos l.ext x hx
  simp only at h2
  unfold rokR
  simp only
  omega
section
variable (A : Option Addr) (c : Nat) (l : Lab) (t : Int) (w : World)
end
end Go.Proofs.Ytnlaogneceanoaa
namespace Go.Proofs.Ytnlaogneceanoaa
set_option linter.unusedVariables false
set_option linter.unusedSimpArgs false
set_option linter.unusedSectionVars false
open Go.RowKit
def hib (m : Nat) : UInt8 := UInt8.ofNat (m % 128 + 128)
def encF : Nat → Nat → List UInt8
  | 0, n => [UInt8.ofNat n]
  | k + 1, n => if n < 128 then [UInt8.ofNat n] else hib n :: encF k (n / 128)
def enc (n : Nat) : List UInt8 := encF 9 n
def bcell (b : UInt8) : Value := .int .u8 (b.toNat : Int)
def lim (k : Nat) : Nat := 128 ^ (10 - k)
theorem lim_succ (k : Nat) (h : k < 10) : lim k = 128 * lim (k + 1) := by
  unfold lim
  rw [show 10 - k = (10 - (k + 1)) + 1 from by omega, Nat.pow_succ, Nat.mul_comm]
theorem lim_0 : lim 0 = 1180591620717411303424 := by decide
theorem lim_9 : lim 9 = 128 := by decide
def AppInv (n k m : Nat) (pre : List UInt8) : Prop := pre.length = k ∧ m < lim k ∧ enc n = pre ++ encF (9 - k) m
theorem app_start (n : Nat) (h : n < 18446744073709551616) : AppInv n 0 n [] := ⟨rfl, by rw [lim_0]; omega, rfl⟩
theorem app_k (n k m : Nat) (pre : List UInt8) (h : AppInv n k m pre) (hk : k ≤ 9) (hm : 128 ≤ m) : k < 9 := by
  rcases Nat.lt_or_ge k 9 with h9 | h9
  · exact h9
  · have e : k = 9 := by omega
    subst e
    have := h.2.1
    rw [lim_9] at this
    omega
theorem app_step (n k m : Nat) (pre : List UInt8) (h : AppInv n k m pre) (hk : k < 9) (hm : 128 ≤ m) : AppInv n (k + 1) (m / 128) (pre ++ [hib m]) := by
  obtain ⟨h1, h2, h3⟩ := h
  refine ⟨by simp [h1], ?_, ?_⟩
  · rw [lim_succ k (by omega)] at h2
    omega
  · rw [h3, show 9 - k = (9 - (k + 1)) + 1 from by omega, encF, if_neg (by omega), List.append_assoc]
    rfl
theorem app_end (n k m : Nat) (pre : List UInt8) (h : AppInv n k m pre) (hm : m < 128) : enc n = pre ++ [UInt8.ofNat m] := by
  obtain ⟨h1, h2, h3⟩ := h
  rw [h3]
  cases 9 - k with
  | zero => rfl
  | succ j => rw [encF, if_pos hm]
def arr (pre : List UInt8) : Array Value := (pre.map bcell ++ List.replicate (10 - pre.length) (Value.int .u8 0)).toArray
theorem arr_size (pre : List UInt8) (h : pre.length ≤ 10) : (arr pre).size = 10 := by simp [arr]; omega
theorem arr_next (pre : List UInt8) (k : Nat) (hk : pre.length = k) (h : k < 10) : (arr pre)[k]? = some (.int .u8 0) := by
  subst hk
  rw [arr, List.getElem?_toArray, List.getElem?_append_right (by simp), List.getElem?_replicate, if_pos (by simp; omega)]
theorem arr_set (pre : List UInt8) (k : Nat) (hk : pre.length = k) (h : k < 10) (b : UInt8) : (arr pre).setIfInBounds k (bcell b) = arr (pre ++ [b]) := by
  subst hk
  simp only [arr, List.setIfInBounds_toArray, List.map_append, List.map_cons, List.map_nil, List.append_assoc, List.length_append, List.length_cons, List.length_nil]
  congr 1
  rw [List.set_append]
  simp
  rw [show 10 - pre.length = (9 - pre.length) + 1 from by omega, List.replicate_succ, List.set_cons_zero]
theorem arr_get (pre : List UInt8) (j : Nat) (hj : j < pre.length) : (arr pre)[j]? = some (bcell pre[j]) := by
  simp [arr, List.getElem?_append_left, hj]
theorem or128 (m : Nat) : bits BinOp.or IntKind.u8 ((m : Int) % 256) 128 = ((hib m).toNat : Int) := by
  have h : ∀ x : Fin 256, bits BinOp.or IntKind.u8 ((x.val : Nat) : Int) 128 = ((UInt8.ofNat (x.val % 128 + 128)).toNat : Int) := by decide +kernel
  have h1 := h ⟨m % 256, Nat.mod_lt _ (by omega)⟩
  simp only at h1
  rw [show (m : Int) % 256 = ((m % 256 : Nat) : Int) from by omega, h1, Nat.mod_mod_of_dvd _ (by decide)]; rfl
theorem conv_row {P : Program} (W : World) (src dst e : TypeId) (g cap n : Nat) (l : List UInt8) (cs : Array Value) (t : TypeId) (hs : P.underlying src = some (.slice e)) (he : P.underlying e = some (.int .u8)) (hd : P.underlying dst = some .string)
    (hn : n = l.length) (h : W.heap[g]? = some (.cells cs t (0, 0))) (hc : ∀ j (hj : j < l.length), cs[j]? = some (bcell l[j])) :
    (convert src dst (.slice (some ⟨g, 0, none⟩) n cap)).run P W = .ok (.string ⟨l.toArray⟩) W := by
  subst hn
  refine run_convert_bytes_back W src dst e ⟨g, 0, none⟩ cap l hs he hd ?_
  intro j hj
  have : (⟨g, 0, none⟩ : Addr).add j = ⟨g, j, none⟩ := by unfold Addr.add; split <;> simp_all
  rw [this, cell_of_row W g j cs t (0, 0) h, hc j hj]
  rfl
theorem slice10 (W : World) (a : Addr) (k : Nat) (hk : k ≤ 9) : (Instr.sliceAt 151 (.pointer (some a)) none (some (.int .i64 ((k : Int) + 1))) none).run Try.prog W = .ok (.slice (some a) (k + 1) 10) W := by
  have hal : Try.prog.arrayLen 151 = 10 := by kernel_rfl
  rw [run_sliceAt_array_h W 151 a (by kernel_rfl) .i64 ((k : Int) + 1) (by omega) (by rw [hal]; omega)]
  rw [hal]
  have hz : (sizeOf (Try.prog.elem 151)).run Try.prog W = .ok 1 W := by kernel_rfl
  rw [hz]
  simp only [Result.andThen, slicedAt]
  have e : ((k : Int) + 1).toNat = k + 1 := by omega
  rw [e]
  simp [Addr.add]
set_option maxRecDepth 100000 in
set_option maxHeartbeats 400000 in
theorem appendNumber_any (s : ByteArray) (n : Nat) (w : World) (hn : n < 18446744073709551616) (hs : s.size ≤ 1000000) :
    Calls Try.prog 94 #[.string s, .int .u64 n] w fun e w' => e = .returned (.string (s ++ ⟨(enc n).toArray⟩)) ∧ Grew w w' := by
  go_enter Try.func94, Try.ntmps94
  go_wp2
  go_loopw [1, 6] (fun a b wr => ∃ (k m : Nat) (pre : List UInt8), k ≤ 9 ∧ m < 18446744073709551616 ∧ a = .int .u64 m ∧ b = .int .i64 k ∧ wr = w.alloc (.cells (arr pre) 151) ∧ AppInv n k m pre) (fun _ b _ => 10 - (intOf b).toNat)
  case atStart => exact ⟨0, n, [], by omega, hn, rfl, rfl, rfl, app_start n hn⟩
  case round =>
    obtain ⟨k, m, pre, hk, hm, rfl, rfl, rfl, hinv⟩ := hrel
    have hsz := arr_size pre (by have := hinv.1; omega)
    have hcell := arr_next pre k hinv.1 (by omega)
    by_cases hlt : m < 128
    · have hend := app_end n k m pre hinv hlt
      have hlen : (enc n).length = k + 1 := by rw [hend]; simp [hinv.1]
      have hset : (arr pre).setIfInBounds k (.int .u8 m) = arr (enc n) := by
        rw [hend, ← arr_set pre k hinv.1 (by omega) (UInt8.ofNat m), bcell, UInt8.toNat_ofNat', Nat.mod_eq_of_lt (by omega)]
      have hconv : (convert 150 9 (.slice (some ⟨w.heap.size, 0, none⟩) (k + 1) 10)).run Try.prog (w.alloc (.cells (arr (enc n)) 151)) = .ok (.string ⟨(enc n).toArray⟩) (w.alloc (.cells (arr (enc n)) 151)) :=
        conv_row _ 150 9 5 _ 10 (k + 1) (enc n) (arr (enc n)) 151 Try.underlying150 Try.underlying5 Try.underlying9 hlen.symm (heap_alloc_new w _) (fun j hj => arr_get (enc n) j hj)
      have hel : (enc n).length ≤ 10 := by omega
      have hsl := fun W => slice10 W ⟨w.heap.size, 0, none⟩ k hk
      have hE := Lib.hid hend
      have hL := Lib.hid hlen
      clear hend hlen
      go_wp2
      go_ret
      exact ⟨rfl, by (repeat' first | (with_reducible exact Grew.refl _) | (with_reducible assumption) | (with_reducible refine Grew.alloc ?_ _) | (with_reducible refine Grew.drew ?_) | (with_reducible refine Grew.drewN ?_ _) | (with_reducible refine Grew.setRow ?_ (by first | (simp; done) | (simp; omega) | omega) _) | (with_reducible refine Grew.setCell ?_ (by first | (simp; done) | (simp; omega) | omega) _) | ((with_reducible apply Grew.trans); rotate_left; (with_reducible assumption)) | ((with_reducible apply Grew.turn); rotate_left; (with_reducible assumption); (focus (intro i hi; first | omega | (simp at hi; omega)))) | fail)⟩
    · have h9 := app_k n k m pre hinv hk (by omega)
      have hst : (arr pre).setIfInBounds k (.int .u8 (bits BinOp.or IntKind.u8 ((m : Int) % 256) 128)) = arr (pre ++ [hib m]) := by
        rw [← arr_set pre k hinv.1 (by omega), bcell, or128]
      go_wp2
      go_roundw
      case rel => exact ⟨k + 1, m / 128, _, by omega, by omega, by go_num, by go_num, rfl, app_step n k m pre hinv h9 (by omega)⟩
      case measure => simp [intOf]; omega
end Go.Proofs.Ytnlaogneceanoaa
namespace Go.Proofs.Ytnlaogneceanoaa
set_option linter.unusedVariables false
set_option linter.unusedSimpArgs false
set_option linter.unusedSectionVars false
open Go.RowKit
attribute [local go_sem ↓] Go.wp_at_zero Go.wp_at_succ
theorem encF_len (k : Nat) : ∀ n, (encF k n).length ≤ k + 1 := by
  induction k with
  | zero => intro n; simp [encF]
  | succ k ih => intro n; rw [encF]; split
                 · simp
                 · have := ih (n / 128); simp; omega
end Go.Proofs.Ytnlaogneceanoaa
namespace Go.Proofs.Ytnlaogneceanoaa
set_option linter.unusedVariables false
set_option linter.unusedSimpArgs false
set_option linter.unusedSectionVars false
open Go.RowKit
set_option maxRecDepth 100000 in
set_option maxHeartbeats 400000 in
theorem appendText_any (s t : ByteArray) (w : World) (hs : s.size ≤ 1000000) (ht : t.size ≤ 1000000) :
    Calls Try.prog 95 #[.string s, .string t] w fun e w' => e = .returned (.string (s ++ ⟨(enc t.size).toArray⟩ ++ t)) ∧ Grew w w' := by
  have hl := encF_len 9 t.size
  have hl' : (enc t.size).length ≤ 10 := hl
  clear hl
  go_enter Try.func95, Try.ntmps95
  go_wp2_with fail
  refine (appendNumber_any s t.size w (by omega) hs).mono ?_
  rintro e w' ⟨rfl, hg⟩
  go_wp2_with fail
  go_ret
  exact ⟨rfl, by (repeat' first | (with_reducible exact Grew.refl _) | (with_reducible assumption) | (with_reducible refine Grew.alloc ?_ _) | (with_reducible refine Grew.drew ?_) | (with_reducible refine Grew.drewN ?_ _) | (with_reducible refine Grew.setRow ?_ (by first | (simp; done) | (simp; omega) | omega) _) | (with_reducible refine Grew.setCell ?_ (by first | (simp; done) | (simp; omega) | omega) _) | ((with_reducible apply Grew.trans); rotate_left; (with_reducible assumption)) | ((with_reducible apply Grew.turn); rotate_left; (with_reducible assumption); (focus (intro i hi; first | omega | (simp at hi; omega)))) | fail)⟩
end Go.Proofs.Ytnlaogneceanoaa
namespace Go.Proofs.Ytnlaogneceanoaa
set_option linter.unusedVariables false
set_option linter.unusedSimpArgs false
set_option linter.unusedSectionVars false
open Go.RowKit
def decF : Nat → Nat → List UInt8 → Nat × Nat
  | _, _, [] => (0, 0)
  | i, acc, b :: l =>
    if 10 ≤ i then (0, 0) else if i = 9 ∧ 1 < b.toNat then (0, 0)
    else if b.toNat < 128 then (if b.toNat = 0 ∧ 0 < i then (0, 0) else (acc + b.toNat % 128 * 128 ^ i, i + 1))
    else decF (i + 1) (acc + b.toNat % 128 * 128 ^ i) l
def dec (l : List UInt8) : Nat × Nat := decF 0 0 l
def decV (l : List UInt8) : Nat := (dec l).1
def decN (l : List UInt8) : Nat := (dec l).2
theorem and127 (b : UInt8) : bits BinOp.and IntKind.u8 (b.toNat : Int) 127 = ((b.toNat % 128 : Nat) : Int) := by
  have h : ∀ x : Fin 256, bits BinOp.and IntKind.u8 ((x.val : Nat) : Int) 127 = ((x.val % 128 : Nat) : Int) := by decide +kernel
  exact h ⟨b.toNat, b.toNat_lt⟩
theorem two7 (k : Nat) : 2 ^ (7 * k) = 128 ^ k := by rw [Nat.pow_mul]
theorem or_disj (m c k : Nat) (hm : m < 2 ^ k) (hc : c * 2 ^ k + m < 18446744073709551616) : bits .or .u64 (m : Int) ((c * 2 ^ k : Nat) : Int) = ((m + c * 2 ^ k : Nat) : Int) := by
  have e : m ||| c * 2 ^ k = m + c * 2 ^ k := by
    rw [Nat.or_comm, Nat.mul_comm, ← Nat.two_pow_add_eq_or_of_lt hm, Nat.add_comm]
  show IntKind.u64.wrap ((BitVec.ofInt 64 (m : Int) ||| BitVec.ofInt 64 ((c * 2 ^ k : Nat) : Int)).toNat : Int) = _
  rw [BitVec.ofInt_natCast, BitVec.ofInt_natCast, BitVec.toNat_or, BitVec.toNat_ofNat, BitVec.toNat_ofNat, Nat.mod_eq_of_lt (by omega), Nat.mod_eq_of_lt (by omega), e, IntKind.wrap_u64]
  omega
theorem cast_mul_pow (c k : Nat) : ((c : Nat) : Int) * 2 ^ k = ((c * 2 ^ k : Nat) : Int) := by
  rw [Int.natCast_mul, Int.natCast_pow]; rfl
theorem orval (m k : Nat) (b : UInt8) (hm : m < 128 ^ k) (hc : b.toNat % 128 * 128 ^ k + m < 18446744073709551616) :
    bits .or .u64 (m : Int) (IntKind.u64.wrap (IntKind.u64.wrap (bits BinOp.and IntKind.u8 (b.toNat : Int) 127) * 2 ^ (7 * k))) = ((m + b.toNat % 128 * 128 ^ k : Nat) : Int) := by
  rw [and127, show IntKind.u64.wrap ((b.toNat % 128 : Nat) : Int) = ((b.toNat % 128 : Nat) : Int) from by rw [IntKind.wrap_u64]; omega, cast_mul_pow]
  rw [← two7] at hm hc ⊢
  rw [show IntKind.u64.wrap ((b.toNat % 128 * 2 ^ (7 * k) : Nat) : Int) = ((b.toNat % 128 * 2 ^ (7 * k) : Nat) : Int) from by rw [IntKind.wrap_u64]; omega]
  exact or_disj m _ _ hm hc
theorem pow128_8 : (128 : Nat) ^ 8 = 72057594037927936 := by decide
theorem pow128_9 : (128 : Nat) ^ 9 = 9223372036854775808 := by decide
theorem orval_lo (m k : Nat) (b : UInt8) (hk : k ≤ 8) (hm : m < 128 ^ k) :
    b.toNat % 128 * 128 ^ k + m < 18446744073709551616 ∧ m + b.toNat % 128 * 128 ^ k < 128 ^ (k + 1) := by
  have hp : (128 : Nat) ^ k ≤ 128 ^ 8 := Nat.pow_le_pow_right (by omega) hk
  rw [pow128_8] at hp
  have h1 : b.toNat % 128 ≤ 127 := by omega
  have h2 := Nat.mul_le_mul_right (128 ^ k) h1
  rw [Nat.pow_succ]
  omega
theorem ret_pair {k j : IntKind} {a b c d : Int} (h : a = b) (h' : c = d) : Ending.returned (.tuple #[.int k a, .int j c]) = .returned (.tuple #[.int k b, .int j d]) := by rw [h, h']
theorem drop_at (s : ByteArray) (k : Nat) (h : k < s.size) : s.data.toList.drop k = s[k] :: s.data.toList.drop (k + 1) := by
  rw [List.drop_eq_getElem_cons (by simpa using h)]; rfl
theorem decF_ten (m : Nat) (l : List UInt8) : decF 10 m l = (0, 0) := by cases l <;> simp [decF]
set_option maxRecDepth 100000 in
set_option maxHeartbeats 1000000 in
theorem decode_any (s : ByteArray) (w : World) (hs : s.size ≤ 9223372036854775807) :
    Calls Try.prog 129 #[.string s] w fun e w' => e = .returned (.tuple #[.int .u64 (decV s.data.toList), .int .i64 (decN s.data.toList)]) ∧ w = w' := by
  go_enter Try.func129, Try.ntmps129
  go_wp2
  go_loop [4, 5] (fun a b => ∃ (k m : Nat), k ≤ s.size ∧ k ≤ 10 ∧ (k ≤ 9 → m < 128 ^ k) ∧ a = .int .u64 m ∧ b = .int .i64 k ∧ dec s.data.toList = decF k m (s.data.toList.drop k)) (fun _ b => 10 - (intOf b).toNat)
  case atStart => exact ⟨0, 0, by omega, by omega, by simp, rfl, rfl, rfl⟩
  case round =>
    obtain ⟨k, m, hk, hk10, hm, rfl, rfl, hdec⟩ := hrel
    by_cases hlt : k < s.size ∧ k < 10
    · obtain ⟨hl1, hl2⟩ := hlt
      have hbl := (s[k]).toNat_lt
      rw [drop_at s k hl1] at hdec
      replace hm := hm (by omega)
      have HD := Lib.hid hdec
      clear hdec
      by_cases h9 : k = 9
      · subst h9
        by_cases hb : 1 < s[9].toNat
        · go_wp2
          go_ret2
          exact ⟨ret_pair (by rw [decV, HD.out]; simp [decF, hb]) (by rw [decN, HD.out]; simp [decF, hb]), rfl⟩
        · rw [pow128_9] at hm
          have hv := orval m 9 s[9] (by rw [pow128_9]; exact hm) (by rw [pow128_9]; omega)
          rw [show (2 : Int) ^ (7 * 9) = 9223372036854775808 from rfl] at hv
          have hlt : s[9].toNat < 128 := by omega
          by_cases h0 : s[9].toNat = 0
          · have H0 := Lib.hid h0
            have h0' : s[9].toNat ≤ 0 := by omega
            clear h0
            go_wp2
            go_ret2
            exact ⟨ret_pair (by rw [decV, HD.out]; simp [decF, H0.out]) (by rw [decN, HD.out]; simp [decF, H0.out]), rfl⟩
          · go_wp2
            go_ret2
            exact ⟨ret_pair (by rw [decV, HD.out]; simp [decF, hb, hlt, h0]) (by rw [decN, HD.out]; simp [decF, hb, hlt, h0]), rfl⟩
      · have hk8 : k ≤ 8 := by omega
        have hlo := orval_lo m k s[k] hk8 hm
        have hv := orval m k s[k] hm hlo.1
        have HL := Lib.hid hlo.2
        have HM := Lib.hid hm
        clear hm hlo
        by_cases hlt : s[k].toNat < 128
        · by_cases h0 : s[k].toNat = 0
          · have H0 := Lib.hid h0
            have h0' : s[k].toNat ≤ 0 := by omega
            clear h0
            have hv0 : bits BinOp.or IntKind.u64 (↑m) (IntKind.u64.wrap (IntKind.u64.wrap (bits BinOp.and IntKind.u8 0 127) * 2 ^ (7 * k))) = (m : Int) := by
              rw [H0.out] at hv
              simpa using hv
            by_cases hk0 : k = 0
            · subst hk0
              rw [Nat.mul_zero, Int.pow_zero, Int.mul_one] at hv0
              go_wp2
              go_ret2
              exact ⟨ret_pair (by rw [decV, HD.out]; simp [decF, H0.out]) (by rw [decN, HD.out]; simp [decF, H0.out]), rfl⟩
            · go_wp2
              go_ret2
              exact ⟨ret_pair (by rw [decV, HD.out]; simp [decF, H0.out, h9, show ¬ 10 ≤ k from by omega, show 0 < k from by omega]) (by rw [decN, HD.out]; simp [decF, H0.out, h9, show ¬ 10 ≤ k from by omega, show 0 < k from by omega]), rfl⟩
          · go_wp2
            go_ret2
            exact ⟨ret_pair (by rw [decV, HD.out]; simp [decF, h9, hlt, h0, show ¬ 10 ≤ k from by omega]) (by rw [decN, HD.out]; simp [decF, h9, hlt, h0, show ¬ 10 ≤ k from by omega]), rfl⟩
        · go_wp2
          go_round
          case rel => exact ⟨k + 1, m + s[k].toNat % 128 * 128 ^ k, by omega, by omega, fun _ => HL.out, rfl, by go_num, by rw [HD.out]; simp [decF, h9, hlt, show ¬ 10 ≤ k from by omega]⟩
          case measure => simp [intOf]; omega
    · have hfin : decF k m (s.data.toList.drop k) = (0, 0) := by
        by_cases h10 : k = 10
        · rw [h10]; exact decF_ten _ _
        · rw [List.drop_eq_nil_of_le (by simp; omega)]; rfl
      rw [hfin] at hdec
      have HD := Lib.hid hdec
      clear hdec hfin
      by_cases hl1 : k < s.size
      · have hl2 : ¬ k < 10 := fun h => hlt ⟨hl1, h⟩
        clear hlt hm
        go_wp2
        go_ret2
        exact ⟨ret_pair (by rw [decV, HD.out]; rfl) (by rw [decN, HD.out]; rfl), rfl⟩
      · clear hlt hm
        go_wp2
        go_ret2
        exact ⟨ret_pair (by rw [decV, HD.out]; rfl) (by rw [decN, HD.out]; rfl), rfl⟩
end Go.Proofs.Ytnlaogneceanoaa
namespace Go.Proofs.Ytnlaogneceanoaa
set_option linter.unusedVariables false
set_option linter.unusedSimpArgs false
set_option linter.unusedSectionVars false
open Go.RowKit
/-- A reader in memory. -/
def Rd (w : World) (g : Nat) (s : ByteArray) (err : Int) : Prop := Blk w g 153 #[.string s, .int .i64 err]
theorem Rd.facts {w : World} {g : Nat} {s : ByteArray} {err : Int} (h : Rd w g s err) : g < w.heap.size ∧ w.cell? ⟨g, 0, none⟩ = some (.string s) ∧ w.cell? ⟨g, 1, none⟩ = some (.int .i64 err) ∧ w.frozen? ⟨g, 0, none⟩ = false ∧ w.frozen? ⟨g, 1, none⟩ = false :=
  ⟨h.lt, h.cell 0, h.cell 1, h.frozen 0, h.frozen 1⟩
def RNum (s : ByteArray) (err : Int) : Nat × ByteArray × Int :=
  if err ≠ 0 then (0, s, err) else if decN s.data.toList = 0 then (0, ⟨#[]⟩, 11) else (decV s.data.toList, s.extract (decN s.data.toList) s.size, 0)
theorem decF_le (l : List UInt8) : ∀ i acc, (decF i acc l).2 ≤ i + l.length := by
  induction l with
  | nil => intro i acc; simp [decF]
  | cons b l ih =>
    intro i acc
    have := ih (i + 1) (acc + b.toNat % 128 * 128 ^ i)
    rw [decF, List.length_cons]
    repeat' split
    all_goals first | exact Nat.zero_le _ | omega
theorem decN_le (s : ByteArray) : decN s.data.toList ≤ s.size := by
  have := decF_le s.data.toList 0 0
  rw [Nat.zero_add, Array.length_toList] at this
  exact this
theorem decV_zero (l : List UInt8) (h : decN l = 0) : decV l = 0 := by
  have key : ∀ (l : List UInt8) i acc, (decF i acc l).2 = 0 → (decF i acc l).1 = 0 := by
    intro l
    induction l with
    | nil => intro i acc _; rfl
    | cons b l ih =>
      intro i acc
      have := ih (i + 1) (acc + b.toNat % 128 * 128 ^ i)
      rw [decF]
      repeat' split
      all_goals first | (intro _; rfl) | (intro hh; exact absurd hh (by omega)) | exact this
  exact key l 0 0 h
set_option maxRecDepth 100000 in
set_option maxHeartbeats 1000000 in
theorem rnumber_any (g : Nat) (s : ByteArray) (err : Int) (w : World) (h : Rd w g s err) (hs : s.size ≤ 9223372036854775807) :
    Calls Try.prog 118 #[.pointer (some ⟨g, 0, none⟩)] w fun e w' => e = .returned (.int .u64 (RNum s err).1) ∧ Turned (· = g) w w' ∧ Rd w' g (RNum s err).2.1 (RNum s err).2.2 := by
  unfold RNum
  obtain ⟨hl, c0, c1, f0, f1⟩ := h.facts
  by_cases he : err ≠ 0
  · rw [if_pos he]
    go_enter Try.func118, Try.ntmps118
    go_wp2
    go_ret
    exact ⟨rfl, by (repeat' first | (with_reducible exact Turned.refl _ _) | (with_reducible assumption) | (with_reducible refine Turned.alloc ?_ _) | (with_reducible refine Turned.drew ?_) | (with_reducible refine Turned.drewN ?_ _) | (with_reducible refine Turned.setRow ?_ (by first | (simp; done) | (simp; omega) | omega) _) | (with_reducible refine Turned.setCell ?_ (by first | (simp; done) | (simp; omega) | omega) _) | ((with_reducible apply Turned.andGrew); rotate_left; (with_reducible assumption)) | ((with_reducible apply Turned.trans); rotate_left; (with_reducible assumption)) | fail), by unfold Rd at h ⊢; (apply Blk.conv; (· (repeat' first | (with_reducible assumption) | (with_reducible apply Blk.setRow) | ((with_reducible apply Blk.farRow); rotate_left; (focus (first | (simp; done) | (simp; omega) | omega))) | (with_reducible apply Blk.drew) | (with_reducible apply Blk.drewN) | (with_reducible apply Blk.set_) | (with_reducible exact Blk.new _ _ _ (by first | rfl | (simp; done) | (simp; omega))) | (with_reducible apply Blk.alloc) | ((with_reducible apply Blk.far); rotate_left; (focus (first | (simp; done) | (simp; omega) | omega))) | ((with_reducible apply Blk.grew); rotate_left; (with_reducible assumption)) | ((with_reducible apply Blk.turned); rotate_left; (with_reducible assumption); (focus (first | (simp; done) | (simp; omega) | omega))) | fail)); (· rfl))⟩
  · rw [if_neg he]
    obtain rfl : err = 0 := by omega
    by_cases hd : decN s.data.toList = 0
    · rw [if_pos hd]
      have hz := decV_zero _ hd
      go_enter Try.func118, Try.ntmps118
      go_wp2_with (first | (go_at_call 129; refine (decode_any s _ hs).mono ?_; rintro e w' ⟨rfl, rfl⟩) | go_in)
      go_ret
      exact ⟨rfl, by (repeat' first | (with_reducible exact Turned.refl _ _) | (with_reducible assumption) | (with_reducible refine Turned.alloc ?_ _) | (with_reducible refine Turned.drew ?_) | (with_reducible refine Turned.drewN ?_ _) | (with_reducible refine Turned.setRow ?_ (by first | (simp; done) | (simp; omega) | omega) _) | (with_reducible refine Turned.setCell ?_ (by first | (simp; done) | (simp; omega) | omega) _) | ((with_reducible apply Turned.andGrew); rotate_left; (with_reducible assumption)) | ((with_reducible apply Turned.trans); rotate_left; (with_reducible assumption)) | fail), by unfold Rd at h ⊢; (apply Blk.conv; (· (repeat' first | (with_reducible assumption) | (with_reducible apply Blk.setRow) | ((with_reducible apply Blk.farRow); rotate_left; (focus (first | (simp; done) | (simp; omega) | omega))) | (with_reducible apply Blk.drew) | (with_reducible apply Blk.drewN) | (with_reducible apply Blk.set_) | (with_reducible exact Blk.new _ _ _ (by first | rfl | (simp; done) | (simp; omega))) | (with_reducible apply Blk.alloc) | ((with_reducible apply Blk.far); rotate_left; (focus (first | (simp; done) | (simp; omega) | omega))) | ((with_reducible apply Blk.grew); rotate_left; (with_reducible assumption)) | ((with_reducible apply Blk.turned); rotate_left; (with_reducible assumption); (focus (first | (simp; done) | (simp; omega) | omega))) | fail)); (· rfl))⟩
    · rw [if_neg hd]
      have hle := decN_le s
      have hd' : 0 < decN s.data.toList := by omega
      go_enter Try.func118, Try.ntmps118
      go_wp2_with (first | (go_at_call 129; refine (decode_any s _ hs).mono ?_; rintro e w' ⟨rfl, rfl⟩) | go_in)
      go_ret
      exact ⟨rfl, by (repeat' first | (with_reducible exact Turned.refl _ _) | (with_reducible assumption) | (with_reducible refine Turned.alloc ?_ _) | (with_reducible refine Turned.drew ?_) | (with_reducible refine Turned.drewN ?_ _) | (with_reducible refine Turned.setRow ?_ (by first | (simp; done) | (simp; omega) | omega) _) | (with_reducible refine Turned.setCell ?_ (by first | (simp; done) | (simp; omega) | omega) _) | ((with_reducible apply Turned.andGrew); rotate_left; (with_reducible assumption)) | ((with_reducible apply Turned.trans); rotate_left; (with_reducible assumption)) | fail), by unfold Rd at h ⊢; (apply Blk.conv; (· (repeat' first | (with_reducible assumption) | (with_reducible apply Blk.setRow) | ((with_reducible apply Blk.farRow); rotate_left; (focus (first | (simp; done) | (simp; omega) | omega))) | (with_reducible apply Blk.drew) | (with_reducible apply Blk.drewN) | (with_reducible apply Blk.set_) | (with_reducible exact Blk.new _ _ _ (by first | rfl | (simp; done) | (simp; omega))) | (with_reducible apply Blk.alloc) | ((with_reducible apply Blk.far); rotate_left; (focus (first | (simp; done) | (simp; omega) | omega))) | ((with_reducible apply Blk.grew); rotate_left; (with_reducible assumption)) | ((with_reducible apply Blk.turned); rotate_left; (with_reducible assumption); (focus (first | (simp; done) | (simp; omega) | omega))) | fail)); (· rfl))⟩
theorem RNum_size (s : ByteArray) (err : Int) : (RNum s err).2.1.size ≤ s.size := by
  unfold RNum
  repeat' split
  · exact Nat.le_refl _
  · exact Nat.zero_le _
  · rw [ByteArray.size_extract]; omega
def RCnt (s : ByteArray) (err most : Int) : Nat × ByteArray × Int :=
  if (RNum s err).2.2 ≠ 0 then (0, (RNum s err).2.1, (RNum s err).2.2)
  else if most < 0 ∨ most < ((RNum s err).1 : Int) then (0, ⟨#[]⟩, 8) else RNum s err
def RTxt (s : ByteArray) (err most : Int) : ByteArray × ByteArray × Int :=
  if (RCnt s err most).2.2 ≠ 0 then (⟨#[]⟩, (RCnt s err most).2.1, (RCnt s err most).2.2)
  else if (RCnt s err most).2.1.size < (RCnt s err most).1 then (⟨#[]⟩, ⟨#[]⟩, 11)
  else ((RCnt s err most).2.1.extract 0 (RCnt s err most).1, (RCnt s err most).2.1.extract (RCnt s err most).1 (RCnt s err most).2.1.size, 0)
set_option maxRecDepth 100000 in
set_option maxHeartbeats 1000000 in
theorem rfail_any (g : Nat) (s : ByteArray) (k : Int) (w : World) (h : Rd w g s 0) :
    Calls Try.prog 117 #[.pointer (some ⟨g, 0, none⟩), .int .i64 k] w fun e w' => e = .returned (.tuple #[]) ∧ Turned (· = g) w w' ∧ Rd w' g ⟨#[]⟩ k := by
  obtain ⟨hl, c0, c1, f0, f1⟩ := h.facts
  go_enter Try.func117, Try.ntmps117
  go_wp2
  go_end0
  exact ⟨rfl, by (repeat' first | (with_reducible exact Turned.refl _ _) | (with_reducible assumption) | (with_reducible refine Turned.alloc ?_ _) | (with_reducible refine Turned.drew ?_) | (with_reducible refine Turned.drewN ?_ _) | (with_reducible refine Turned.setRow ?_ (by first | (simp; done) | (simp; omega) | omega) _) | (with_reducible refine Turned.setCell ?_ (by first | (simp; done) | (simp; omega) | omega) _) | ((with_reducible apply Turned.andGrew); rotate_left; (with_reducible assumption)) | ((with_reducible apply Turned.trans); rotate_left; (with_reducible assumption)) | fail), by unfold Rd at h ⊢; (apply Blk.conv; (· (repeat' first | (with_reducible assumption) | (with_reducible apply Blk.setRow) | ((with_reducible apply Blk.farRow); rotate_left; (focus (first | (simp; done) | (simp; omega) | omega))) | (with_reducible apply Blk.drew) | (with_reducible apply Blk.drewN) | (with_reducible apply Blk.set_) | (with_reducible exact Blk.new _ _ _ (by first | rfl | (simp; done) | (simp; omega))) | (with_reducible apply Blk.alloc) | ((with_reducible apply Blk.far); rotate_left; (focus (first | (simp; done) | (simp; omega) | omega))) | ((with_reducible apply Blk.grew); rotate_left; (with_reducible assumption)) | ((with_reducible apply Blk.turned); rotate_left; (with_reducible assumption); (focus (first | (simp; done) | (simp; omega) | omega))) | fail)); (· rfl))⟩
set_option maxRecDepth 100000 in
set_option maxHeartbeats 1000000 in
theorem newReader_any (s : ByteArray) (w : World) :
    Calls Try.prog 96 #[.string s] w fun e w' => ∃ g, e = .returned (.pointer (some ⟨g, 0, none⟩)) ∧ w.heap.size ≤ g ∧ Grew w w' ∧ Rd w' g s 0 := by
  go_enter Try.func96, Try.ntmps96
  go_wp2
  go_ret
  exact ⟨_, rfl, Nat.le_refl _, by (repeat' first | (with_reducible exact Grew.refl _) | (with_reducible assumption) | (with_reducible refine Grew.alloc ?_ _) | (with_reducible refine Grew.drew ?_) | (with_reducible refine Grew.drewN ?_ _) | (with_reducible refine Grew.setRow ?_ (by first | (simp; done) | (simp; omega) | omega) _) | (with_reducible refine Grew.setCell ?_ (by first | (simp; done) | (simp; omega) | omega) _) | ((with_reducible apply Grew.trans); rotate_left; (with_reducible assumption)) | ((with_reducible apply Grew.turn); rotate_left; (with_reducible assumption); (focus (intro i hi; first | omega | (simp at hi; omega)))) | fail), by unfold Rd; (apply Blk.conv; (· (repeat' first | (with_reducible assumption) | (with_reducible apply Blk.setRow) | ((with_reducible apply Blk.farRow); rotate_left; (focus (first | (simp; done) | (simp; omega) | omega))) | (with_reducible apply Blk.drew) | (with_reducible apply Blk.drewN) | (with_reducible apply Blk.set_) | (with_reducible exact Blk.new _ _ _ (by first | rfl | (simp; done) | (simp; omega))) | (with_reducible apply Blk.alloc) | ((with_reducible apply Blk.far); rotate_left; (focus (first | (simp; done) | (simp; omega) | omega))) | ((with_reducible apply Blk.grew); rotate_left; (with_reducible assumption)) | ((with_reducible apply Blk.turned); rotate_left; (with_reducible assumption); (focus (first | (simp; done) | (simp; omega) | omega))) | fail)); (· rfl))⟩
end Go.Proofs.Ytnlaogneceanoaa
namespace Go.Proofs.Ytnlaogneceanoaa
set_option linter.unusedVariables false
set_option linter.unusedSimpArgs false
set_option linter.unusedSectionVars false
open Go.RowKit
theorem decF_acc (l : List UInt8) : ∀ i acc, i ≤ 9 → acc < 128 ^ i → (decF i acc l).1 < 18446744073709551616 := by
  induction l with
  | nil => intro i acc _ _; simp [decF]
  | cons b l ih =>
    intro i acc hi ha
    have hb := b.toNat_lt
    by_cases h9 : i = 9
    · subst h9
      rw [pow128_9] at ha
      rw [decF, if_neg (by omega)]
      split
      · simp
      · rename_i h
        split
        · split
          · simp
          · rw [pow128_9]
            have h1 : b.toNat ≤ 1 := by omega
            show acc + b.toNat % 128 * 9223372036854775808 < _
            have : b.toNat % 128 ≤ 1 := by omega
            omega
        · rw [decF_ten]; simp
    · have hlo := orval_lo acc i b (by omega) ha
      rw [decF, if_neg (by omega), if_neg (by omega)]
      split
      · split
        · simp
        · show acc + _ < _
          omega
      · exact ih (i + 1) _ (by omega) hlo.2
theorem decV_lt (l : List UInt8) : decV l < 18446744073709551616 := decF_acc l 0 0 (by omega) (by simp)
theorem RNum_lt (s : ByteArray) (err : Int) : (RNum s err).1 < 18446744073709551616 := by
  unfold RNum
  repeat' split
  · show 0 < _; omega
  · show 0 < _; omega
  · exact decV_lt _
set_option maxRecDepth 100000 in
set_option maxHeartbeats 1000000 in
theorem rcount_any (g : Nat) (s : ByteArray) (err most : Int) (w : World) (h : Rd w g s err) (hs : s.size ≤ 9223372036854775807) (hm0 : -9223372036854775808 ≤ most) (hm1 : most ≤ 9223372036854775807) :
    Calls Try.prog 98 #[.pointer (some ⟨g, 0, none⟩), .int .i64 most] w fun e w' => e = .returned (.int .i64 (RCnt s err most).1) ∧ Turned (· = g) w w' ∧ Rd w' g (RCnt s err most).2.1 (RCnt s err most).2.2 := by
  have hlt := RNum_lt s err
  unfold RCnt
  by_cases he : (RNum s err).2.2 ≠ 0
  · rw [if_pos he]
    go_enter Try.func98, Try.ntmps98
    go_wp2_with fail
    refine (rnumber_any g s err w h hs).mono ?_
    rintro e w1 ⟨rfl, ht, hr⟩
    obtain ⟨hl, c0, c1, f0, f1⟩ := hr.facts
    go_wp2_with fail
    go_ret
    exact ⟨rfl, ht, hr⟩
  · rw [if_neg he]
    have he0 : (RNum s err).2.2 = 0 := by omega
    have HE := Lib.hid he0
    clear he0 he
    by_cases hc : most < 0 ∨ most < ((RNum s err).1 : Int)
    · rw [if_pos hc]
      by_cases hc1 : most < 0
      · clear hc
        go_enter Try.func98, Try.ntmps98
        go_wp2_with fail
        refine (rnumber_any g s err w h hs).mono ?_
        rintro e w1 ⟨rfl, ht, hr⟩
        rw [HE.out] at hr
        obtain ⟨hl, c0, c1, f0, f1⟩ := hr.facts
        go_wp2_with fail
        refine (rfail_any g _ 8 w1 hr).mono ?_
        rintro e w2 ⟨rfl, ht2, hr2⟩
        go_wp2_with fail
        go_ret
        exact ⟨rfl, ht.trans ht2, hr2⟩
      · have hc2 : most < ((RNum s err).1 : Int) := by omega
        clear hc
        go_enter Try.func98, Try.ntmps98
        go_wp2_with fail
        refine (rnumber_any g s err w h hs).mono ?_
        rintro e w1 ⟨rfl, ht, hr⟩
        rw [HE.out] at hr
        obtain ⟨hl, c0, c1, f0, f1⟩ := hr.facts
        go_wp2_with fail
        refine (rfail_any g _ 8 w1 hr).mono ?_
        rintro e w2 ⟨rfl, ht2, hr2⟩
        go_wp2_with fail
        go_ret
        exact ⟨rfl, ht.trans ht2, hr2⟩
    · rw [if_neg hc]
      have hc1 : 0 ≤ most := by omega
      have hc2 : ((RNum s err).1 : Int) ≤ most := by omega
      clear hc
      go_enter Try.func98, Try.ntmps98
      go_wp2_with fail
      refine (rnumber_any g s err w h hs).mono ?_
      rintro e w1 ⟨rfl, ht, hr⟩
      have hr0 := hr
      rw [HE.out] at hr0
      obtain ⟨hl, c0, c1, f0, f1⟩ := hr0.facts
      go_wp2_with fail
      go_ret
      exact ⟨rfl, ht, hr⟩
theorem RCnt_size (s : ByteArray) (err most : Int) : (RCnt s err most).2.1.size ≤ s.size := by
  unfold RCnt
  have := RNum_size s err
  repeat' split
  · exact this
  · exact Nat.zero_le _
  · exact this
theorem RCnt_lt (s : ByteArray) (err most : Int) (hm1 : most ≤ 9223372036854775807) : (RCnt s err most).1 ≤ 9223372036854775807 := by
  unfold RCnt
  split
  · exact Nat.zero_le _
  · split
    · exact Nat.zero_le _
    · omega
set_option maxRecDepth 100000 in
set_option maxHeartbeats 1000000 in
theorem rtext_any (g : Nat) (s : ByteArray) (err most : Int) (w : World) (h : Rd w g s err) (hs : s.size ≤ 9223372036854775807) (hm0 : -9223372036854775808 ≤ most) (hm1 : most ≤ 9223372036854775807) :
    Calls Try.prog 97 #[.pointer (some ⟨g, 0, none⟩), .int .i64 most] w fun e w' => e = .returned (.string (RTxt s err most).1) ∧ Turned (· = g) w w' ∧ Rd w' g (RTxt s err most).2.1 (RTxt s err most).2.2 := by
  have hsz := RCnt_size s err most
  have hlt := RCnt_lt s err most hm1
  unfold RTxt
  by_cases he : (RCnt s err most).2.2 ≠ 0
  · rw [if_pos he]
    go_enter Try.func97, Try.ntmps97
    go_wp2_with fail
    refine (rcount_any g s err most w h hs hm0 hm1).mono ?_
    rintro e w1 ⟨rfl, ht, hr⟩
    obtain ⟨hl, c0, c1, f0, f1⟩ := hr.facts
    go_wp2_with fail
    go_ret
    exact ⟨rfl, ht, hr⟩
  · rw [if_neg he]
    have he0 : (RCnt s err most).2.2 = 0 := by omega
    have HE := Lib.hid he0
    clear he0 he
    by_cases hc : (RCnt s err most).2.1.size < (RCnt s err most).1
    · rw [if_pos hc]
      go_enter Try.func97, Try.ntmps97
      go_wp2_with fail
      refine (rcount_any g s err most w h hs hm0 hm1).mono ?_
      rintro e w1 ⟨rfl, ht, hr⟩
      rw [HE.out] at hr
      obtain ⟨hl, c0, c1, f0, f1⟩ := hr.facts
      go_wp2_with fail
      refine (rfail_any g _ 11 w1 hr).mono ?_
      rintro e w2 ⟨rfl, ht2, hr2⟩
      go_wp2_with fail
      go_ret
      exact ⟨rfl, ht.trans ht2, hr2⟩
    · rw [if_neg hc]
      go_enter Try.func97, Try.ntmps97
      go_wp2_with fail
      refine (rcount_any g s err most w h hs hm0 hm1).mono ?_
      rintro e w1 ⟨rfl, ht, hr⟩
      rw [HE.out] at hr
      obtain ⟨hl, c0, c1, f0, f1⟩ := hr.facts
      go_wp2_with fail
      go_ret
      unfold Rd at hr ⊢
      exact ⟨rfl, ht.trans (by (repeat' first | (with_reducible exact Turned.refl _ _) | (with_reducible assumption) | (with_reducible refine Turned.alloc ?_ _) | (with_reducible refine Turned.drew ?_) | (with_reducible refine Turned.drewN ?_ _) | (with_reducible refine Turned.setRow ?_ (by first | (simp; done) | (simp; omega) | omega) _) | (with_reducible refine Turned.setCell ?_ (by first | (simp; done) | (simp; omega) | omega) _) | ((with_reducible apply Turned.andGrew); rotate_left; (with_reducible assumption)) | ((with_reducible apply Turned.trans); rotate_left; (with_reducible assumption)) | fail)), by (apply Blk.conv; (· (repeat' first | (with_reducible assumption) | (with_reducible apply Blk.setRow) | ((with_reducible apply Blk.farRow); rotate_left; (focus (first | (simp; done) | (simp; omega) | omega))) | (with_reducible apply Blk.drew) | (with_reducible apply Blk.drewN) | (with_reducible apply Blk.set_) | (with_reducible exact Blk.new _ _ _ (by first | rfl | (simp; done) | (simp; omega))) | (with_reducible apply Blk.alloc) | ((with_reducible apply Blk.far); rotate_left; (focus (first | (simp; done) | (simp; omega) | omega))) | ((with_reducible apply Blk.grew); rotate_left; (with_reducible assumption)) | ((with_reducible apply Blk.turned); rotate_left; (with_reducible assumption); (focus (first | (simp; done) | (simp; omega) | omega))) | fail)); (· rfl))⟩
end Go.Proofs.Ytnlaogneceanoaa
namespace Go.Proofs.Ytnlaogneceanoaa
set_option linter.unusedVariables false
set_option linter.unusedSimpArgs false
set_option linter.unusedSectionVars false
open Go.RowKit
theorem RNum_some (s : ByteArray) (v n : Nat) (h : dec s.data.toList = (v, n + 1)) : RNum s 0 = (v, s.extract (n + 1) s.size, 0) := by
  rw [RNum, if_neg (by simp), if_neg (by rw [decN, h]; simp), decN, decV, h]
end Go.Proofs.Ytnlaogneceanoaa
namespace Go.Proofs.Ytnlaogneceanoaa
set_option linter.unusedVariables false
set_option linter.unusedSimpArgs false
set_option linter.unusedSectionVars false
open Go.RowKit
theorem hib_toNat (n : Nat) : (hib n).toNat = n % 128 + 128 := by
  rw [hib, UInt8.toNat_ofNat', Nat.mod_eq_of_lt (by omega)]
theorem ofNat_lt (n : Nat) (h : n < 256) : (UInt8.ofNat n).toNat = n := by
  rw [UInt8.toNat_ofNat', Nat.mod_eq_of_lt (by omega)]
theorem digit_sum (n i : Nat) : n % 128 * 128 ^ i + n / 128 * 128 ^ (i + 1) = n * 128 ^ i := by
  rw [Nat.pow_succ, ← Nat.mul_assoc, Nat.mul_right_comm, ← Nat.add_mul]
  congr 1
  omega
theorem decF_enc : ∀ (k i acc n : Nat) (rest : List UInt8), i + k = 9 → n * 128 ^ i < 18446744073709551616 → (0 < i → 0 < n) →
    decF i acc (encF k n ++ rest) = (acc + n * 128 ^ i, i + (encF k n).length) := by
  intro k
  induction k with
  | zero =>
    intro i acc n rest hi hn hp
    obtain rfl : i = 9 := by omega
    rw [pow128_9] at hn
    have hb := ofNat_lt n (by omega)
    have hp' := hp (by omega)
    simp only [encF, List.singleton_append, List.length_singleton]
    rw [decF, if_neg (by omega), hb, if_neg (by omega), if_pos (by omega), if_neg (by omega), Nat.mod_eq_of_lt (by omega)]
  | succ k ih =>
    intro i acc n rest hi hn hp
    rw [encF]
    split
    · rename_i h
      have hb := ofNat_lt n (by omega)
      simp only [List.singleton_append, List.length_singleton]
      rw [decF, if_neg (by omega), hb, if_neg (by omega), if_pos h, if_neg (by omega), Nat.mod_eq_of_lt h]
    · rename_i h
      have hb := hib_toNat n
      simp only [List.cons_append, List.length_cons]
      rw [decF, if_neg (by omega), hb, if_neg (by omega), if_neg (by omega), show (n % 128 + 128) % 128 = n % 128 from by omega]
      have hs := digit_sum n i
      rw [ih (i + 1) _ (n / 128) rest (by omega) (by omega) (by omega), Nat.add_assoc, hs]
      congr 1
      omega
theorem dec_enc (n : Nat) (rest : List UInt8) (h : n < 18446744073709551616) : dec (enc n ++ rest) = (n, (enc n).length) := by
  have := decF_enc 9 0 0 n rest (by omega) (by simpa using h) (by omega)
  simpa [dec, enc] using this
theorem encF_pos (k n : Nat) : 0 < (encF k n).length := by
  cases k with
  | zero => simp [encF]
  | succ k => rw [encF]; split <;> simp
theorem enc_len (n : Nat) : (enc n).length ≤ 10 := encF_len 9 n
theorem enc_pos (n : Nat) : 0 < (enc n).length := encF_pos 9 n
theorem RTxt_size (s : ByteArray) (err most : Int) : (RTxt s err most).2.1.size ≤ s.size := by
  have h := RCnt_size s err most
  unfold RTxt
  repeat' split
  · exact h
  · exact Nat.zero_le _
  · rw [ByteArray.size_extract]; omega
end Go.Proofs.Ytnlaogneceanoaa
namespace Go.Proofs.Ytnlaogneceanoaa
set_option linter.unusedVariables false
set_option linter.unusedSimpArgs false
set_option linter.unusedSectionVars false
open Go.RowKit
theorem ret_str {a b : ByteArray} (h : a = b) : Ending.returned (.string a) = .returned (.string b) := by rw [h]
def zeros (n : Nat) : ByteArray := ⟨(List.replicate n (0 : UInt8)).toArray⟩
theorem zeros_size (n : Nat) : (zeros n).size = n := by simp [zeros, ByteArray.size]
def padS (n : Nat) (s : ByteArray) : ByteArray := s ++ zeros (n - s.size)
theorem info_u8 : (Try.prog.info? 5).map (fun i => (i.zero, i.size, i.bytes)) = some (some (.int .u8 0), 1, 1) := by kernel_rfl
set_option maxRecDepth 100000 in
theorem made_zero (w : World) (n : Nat) (hn : n ≤ 1000000) : (Instr.makeSlice 150 (.int .i64 (n : Int)) (.int .i64 (n : Int))).run Try.prog w = .ok (.slice (some ⟨w.heap.size, 0, none⟩) n n) (w.alloc (.cells (Array.replicate n (Value.int .u8 0)) 5)) := by
  obtain ⟨i, hi, hz0, hz1, hz2⟩ := info_parts info_u8
  have h := run_make (P := Try.prog) w 150 5 i _ Try.underlying150 hi hz0 .i64 .i64 (n : Int) (n : Int) (by omega) (by omega) (by rw [hz2]; omega) (by omega)
  rw [hz1] at h
  simp only [Int.toNat_natCast, Nat.mul_one] at h
  rw [h]
  congr 3
  unfold madeCells
  apply Array.ext
  · simp
  · intro j h1 h2
    simp [Value.cells, Nat.mod_one]
set_option maxRecDepth 100000 in
theorem conv_zero (w : World) (n : Nat) : (convert 150 9 (.slice (some ⟨w.heap.size, 0, none⟩) n n)).run Try.prog (w.alloc (.cells (Array.replicate n (Value.int .u8 0)) 5)) = .ok (.string (zeros n)) (w.alloc (.cells (Array.replicate n (Value.int .u8 0)) 5)) :=
  conv_row _ 150 9 5 _ n n (List.replicate n 0) _ 5 Try.underlying150 Try.underlying5 Try.underlying9 (by simp) (heap_alloc_new w _) (fun j hj => by
    simp only [List.length_replicate] at hj
    simp [hj, bcell])
set_option maxRecDepth 100000 in
set_option maxHeartbeats 1000000 in
theorem fill_any (s : ByteArray) (w : World) (hs : s.size ≤ 1024) :
    Calls Try.prog 93 #[.string s] w fun e w' => e = .returned (.string (padS 1024 s)) ∧ Grew w w' := by
  obtain ⟨n, hn⟩ : ∃ n, 1024 - s.size = n := ⟨_, rfl⟩
  have h1 : (1024 : Int) - (s.size : Int) = (n : Int) := by omega
  have HE := Lib.hid (show padS 1024 s = s ++ zeros n from by unfold padS; rw [hn])
  have hmk := made_zero w n (by omega)
  have hcv := conv_zero w n
  have hzs := zeros_size n
  have hn2 : n ≤ 1024 := by omega
  clear hn
  go_enter Try.func93, Try.ntmps93
  go_wp2_with fail
  go_ret
  exact ⟨ret_str (by rw [HE.out]), by (repeat' first | (with_reducible exact Grew.refl _) | (with_reducible assumption) | (with_reducible refine Grew.alloc ?_ _) | (with_reducible refine Grew.drew ?_) | (with_reducible refine Grew.drewN ?_ _) | (with_reducible refine Grew.setRow ?_ (by first | (simp; done) | (simp; omega) | omega) _) | (with_reducible refine Grew.setCell ?_ (by first | (simp; done) | (simp; omega) | omega) _) | ((with_reducible apply Grew.trans); rotate_left; (with_reducible assumption)) | ((with_reducible apply Grew.turn); rotate_left; (with_reducible assumption); (focus (intro i hi; first | omega | (simp at hi; omega)))) | fail)⟩
end Go.Proofs.Ytnlaogneceanoaa
namespace Go.Proofs.Ytnlaogneceanoaa
set_option linter.unusedVariables false
set_option linter.unusedSimpArgs false
set_option linter.unusedSectionVars false
open Go.RowKit
attribute [local go_sem ↓] Go.wp_at_zero Go.wp_at_succ
def eB (n : Nat) : ByteArray := ⟨(enc n).toArray⟩
theorem eB_size (n : Nat) : (eB n).size ≤ 10 := enc_len n
def rB (r : Int × Int) : ByteArray := eB r.1.toNat ++ eB r.2.toNat
def runsE : List (Int × Int) → ByteArray
  | [] => ⟨#[]⟩
  | r :: l => rB r ++ runsE l
def bodyE (l : Lab) : ByteArray := eB l.id.toNat ++ (eB l.unit.toNat ++ (eB l.name.size ++ (l.name ++ (eB l.note.size ++ (l.note ++ eB l.ext.length)))))
def encS (l : Lab) (t : Int) : ByteArray := if okT t = true ∧ eqL l labZ = true then padS 1024 ⟨#[]⟩ else if validL l t = true then padS 1024 (bodyE l ++ runsE l.ext) else ⟨#[]⟩
theorem runsE_snoc (l : List (Int × Int)) (r : Int × Int) : runsE (l ++ [r]) = runsE l ++ rB r := by
  induction l with
  | nil => show rB r ++ ByteArray.empty = ByteArray.empty ++ rB r; rw [ByteArray.append_empty]; exact (ByteArray.empty_append).symm
  | cons x l ih => show rB x ++ runsE (l ++ [r]) = (rB x ++ runsE l) ++ rB r; rw [ih, ByteArray.append_assoc]
theorem rB_size (r : Int × Int) : (rB r).size ≤ 20 := by
  unfold rB; rw [ByteArray.size_append]; have := eB_size r.1.toNat; have := eB_size r.2.toNat; omega
theorem runsE_size (l : List (Int × Int)) : (runsE l).size ≤ 20 * l.length := by
  induction l with
  | nil => simp [runsE]; rfl
  | cons r l ih => show (rB r ++ runsE l).size ≤ _; rw [ByteArray.size_append, List.length_cons]; have := rB_size r; omega
theorem bodyE_size (l : Lab) (h1 : l.name.size ≤ 31) (h2 : l.note.size ≤ 400) : (bodyE l).size ≤ 481 := by
  unfold bodyE
  simp only [ByteArray.size_append]
  have := eB_size l.id.toNat; have := eB_size l.unit.toNat; have := eB_size l.name.size; have := eB_size l.note.size; have := eB_size l.ext.length
  omega
theorem empty_bytes (s : ByteArray) : (⟨#[]⟩ : ByteArray) ++ s = s := ByteArray.empty_append
theorem valid_facts (l : Lab) (t : Int) (h : validL l t = true) : (1 ≤ l.id ∧ l.id ≤ 1099511627776 ∧ 0 ≤ l.unit ∧ l.unit ≤ 1099511627776) ∧ (l.name.size ≤ 31 ∧ l.note.size ≤ 400) ∧ (1 ≤ l.ext.length ∧ l.ext.length ≤ 16) ∧ jnB l = true := by
  unfold validL at h
  simp only [Bool.and_eq_true] at h
  obtain ⟨_, h1, h2, h3, h4, _⟩ := h
  exact ⟨by simpa [idB] using h1, by simpa [txB] using h2, by simpa [cnB] using h3, h4⟩
theorem equalZ_any (A : Option Addr) (c : Nat) (l : Lab) (w : World) (h : LabAt w A c l) (hl : l.ext.length ≤ 100000) :
    Calls Try.prog 62 #[.agg #[.int .i64 l.id, .int .i64 l.unit, .string l.name, .string l.note, .slice A l.ext.length c], .agg #[.int .i64 0, .int .i64 0, .string ⟨#[]⟩, .string ⟨#[]⟩, .slice none 0 0]] w fun e w' => e = .returned (.bool (eqL l labZ)) ∧ Grew w w' :=
  lequal_any A none c 0 l labZ w h (LabAt.zero w) hl (by simp [labZ])
set_option maxRecDepth 100000 in
set_option maxHeartbeats 4000000 in
theorem encode_lab (A : Option Addr) (c : Nat) (l : Lab) (t : Int) (w : World) (h : LabAt w A c l) (hs : l.ext.length ≤ 100000) (t0 : -9223372036854775808 ≤ t) (t1 : t ≤ 9223372036854775807) :
    Calls Try.prog 58 #[.agg #[.int .i64 l.id, .int .i64 l.unit, .string l.name, .string l.note, .slice A l.ext.length c], .int .i64 t] w fun e w' => e = .returned (.string (encS l t)) ∧ Grew w w' := by
  have g0 := (Grew.refl w).alloc (.cells #[.int .i64 l.id, .int .i64 l.unit, .string l.name, .string l.note, .slice A l.ext.length c] 24)
  have HL := Lib.hid h
  have HL0 := Lib.hid (h.hold g0)
  have HB0 := Lib.hid (Blk.new w 24 #[.int .i64 l.id, .int .i64 l.unit, .string l.name, .string l.note, .slice A l.ext.length c] rfl)
  have HG0 := Lib.hid g0
  have HV := Lib.hid (fun (hv : validL l t = true) => valid_facts l t hv)
  have HZ := Lib.hid (fun w' (g : Grew w w') => equalZ_any A c l w' (HL.out.hold g) hs)
  have HVC := Lib.hid (fun w' (g : Grew w w') => valid_lab A c l t w' (HL.out.hold g) hs)
  clear h g0
  cases ho : okT t with
  | false =>
    have HO := Lib.hid ho
    have hvf := valid_false l t 0 ho
    have HVF := Lib.hid hvf
    have HE := Lib.hid (show encS l t = ⟨#[]⟩ from by unfold encS; rw [if_neg (by rw [ho]; simp), if_neg (by rw [hvf]; simp)])
    clear ho hvf
    go_enter Try.func58, Try.ntmps58
    go_wp2_with fail
    refine (tracksOK_any _ _).mono ?_
    rintro e w1 ⟨rfl, rfl⟩
    rw [HO.out]
    go_wp2_with fail
    refine (HVC.out _ HG0.out).mono ?_
    rintro e w2 ⟨rfl, g2⟩
    rw [HVF.out]
    go_wp2_with fail
    go_ret
    exact ⟨ret_str (by rw [HE.out]), HG0.out.trans g2⟩
  | true =>
    have HO := Lib.hid ho
    clear ho
    cases hz : eqL l labZ with
    | true =>
      have HZZ := Lib.hid hz
      have HE := Lib.hid (show encS l t = padS 1024 ⟨#[]⟩ from by unfold encS; rw [if_pos ⟨HO.out, hz⟩])
      clear hz
      go_enter Try.func58, Try.ntmps58
      go_wp2_with fail
      refine (tracksOK_any _ _).mono ?_
      rintro e w1 ⟨rfl, rfl⟩
      rw [HO.out]
      go_wp2_with fail
      refine (HZ.out _ HG0.out).mono ?_
      rintro e w2 ⟨rfl, g2⟩
      rw [HZZ.out]
      go_wp2_with fail
      refine (fill_any ⟨#[]⟩ w2 (by decide)).mono ?_
      rintro e w3 ⟨rfl, g3⟩
      go_wp2_with fail
      go_ret
      exact ⟨ret_str (by rw [HE.out]), (HG0.out.trans g2).trans g3⟩
    | false =>
      have HZZ := Lib.hid hz
      clear hz
      cases hv : validL l t with
      | false =>
        have HVF := Lib.hid hv
        have HE := Lib.hid (show encS l t = ⟨#[]⟩ from by unfold encS; rw [if_neg (by rw [HZZ.out]; simp), if_neg (by rw [hv]; simp)])
        clear hv
        go_enter Try.func58, Try.ntmps58
        go_wp2_with fail
        refine (tracksOK_any _ _).mono ?_
        rintro e w1 ⟨rfl, rfl⟩
        rw [HO.out]
        go_wp2_with fail
        refine (HZ.out _ HG0.out).mono ?_
        rintro e w2 ⟨rfl, g2⟩
        rw [HZZ.out]
        have hl2 := (HB0.out.grew g2).lt
        have x0 := (HB0.out.grew g2).cell 0
        have x1 := (HB0.out.grew g2).cell 1
        have x2 := (HB0.out.grew g2).cell 2
        have x3 := (HB0.out.grew g2).cell 3
        have x4 := (HB0.out.grew g2).cell 4
        go_wp2_with fail
        refine (HVC.out _ (HG0.out.trans g2)).mono ?_
        rintro e w3 ⟨rfl, g3⟩
        rw [HVF.out]
        go_wp2_with fail
        go_ret
        exact ⟨ret_str (by rw [HE.out]), (HG0.out.trans g2).trans g3⟩
      | true =>
        have HVT := Lib.hid hv
        have HE := Lib.hid (show encS l t = padS 1024 (bodyE l ++ runsE l.ext) from by unfold encS; rw [if_neg (by rw [HZZ.out]; simp), if_pos hv])
        obtain ⟨⟨v1, v2, v3, v4⟩, ⟨v5, v6⟩, ⟨v7, v8⟩, vj⟩ := HV.out hv
        have HJB := Lib.hid (jn_bd l vj)
        clear hv vj
        go_enter Try.func58, Try.ntmps58
        go_wp2_with fail
        refine (tracksOK_any _ _).mono ?_
        rintro e w1 ⟨rfl, rfl⟩
        rw [HO.out]
        go_wp2_with fail
        refine (HZ.out _ HG0.out).mono ?_
        rintro e w2 ⟨rfl, g2⟩
        rw [HZZ.out]
        have hl2 := (HB0.out.grew g2).lt
        have x0 := (HB0.out.grew g2).cell 0
        have x1 := (HB0.out.grew g2).cell 1
        have x2 := (HB0.out.grew g2).cell 2
        have x3 := (HB0.out.grew g2).cell 3
        have x4 := (HB0.out.grew g2).cell 4
        go_wp2_with fail
        refine (HVC.out _ (HG0.out.trans g2)).mono ?_
        rintro e w3 ⟨rfl, g3⟩
        rw [HVT.out]
        have hG := g2.trans g3
        clear g2 g3 x0 x1 x2 x3 x4 hl2 HZ HVC
        obtain ⟨id, unit, name, note, ext⟩ := l
        simp only at v1 v2 v3 v4 v5 v6 v7 v8
        obtain ⟨idn, rfl⟩ := Int.eq_ofNat_of_zero_le (show 0 ≤ id by omega)
        obtain ⟨un, rfl⟩ := Int.eq_ofNat_of_zero_le v3
        have HB := Lib.hid (show Blk (w.alloc (.cells #[.int .i64 (idn : Int), .int .i64 (un : Int), .string name, .string note, .slice A ext.length c] 24)) w.heap.size 24 #[.int .i64 (idn : Int), .int .i64 (un : Int), .string name, .string note, .slice A ext.length c] from HB0.out)
        have HL1 := Lib.hid (show LabAt w A c ⟨(idn : Int), (un : Int), name, note, ext⟩ from HL.out)
        have HBE := Lib.hid (show bodyE ⟨(idn : Int), (un : Int), name, note, ext⟩ = eB idn ++ (eB un ++ (eB name.size ++ (name ++ (eB note.size ++ (note ++ eB ext.length))))) from rfl)
        have HBS := Lib.hid (bodyE_size ⟨(idn : Int), (un : Int), name, note, ext⟩ v5 v6)
        have HRS := Lib.hid (fun k => runsE_size (ext.take k))
        clear HB0 HL HL0
        have s0 := eB_size idn
        have s1 := eB_size un
        have s2 := eB_size name.size
        have s3 := eB_size note.size
        have s4 := eB_size ext.length
        have hlb := (HB.out.grew hG).lt
        have x0 := (HB.out.grew hG).cell 0
        go_wp2_with fail
        refine (appendNumber_any ⟨#[]⟩ idn _ (by omega) (by decide)).mono ?_
        rintro e ws ⟨rfl, gs⟩
        replace hG := hG.trans gs
        obtain ⟨S1, hS1⟩ : ∃ S1 : ByteArray, S1 = ⟨#[]⟩ ++ ⟨(enc idn).toArray⟩ := ⟨_, rfl⟩
        rw [← hS1]
        have HS1 := Lib.hid (show S1 = eB idn from hS1.trans (by rw [empty_bytes]; rfl))
        have zS1 : S1.size ≤ 10 := by rw [HS1.out]; (try simp only [ByteArray.size_append]); omega
        clear gs hS1 hlb x0
        have hlb := (HB.out.grew hG).lt
        have x1 := (HB.out.grew hG).cell 1
        go_wp2_with fail
        refine (appendNumber_any S1 un _ (by omega) (by omega)).mono ?_
        rintro e ws ⟨rfl, gs⟩
        replace hG := hG.trans gs
        obtain ⟨S2, hS2⟩ : ∃ S2 : ByteArray, S2 = S1 ++ ⟨(enc un).toArray⟩ := ⟨_, rfl⟩
        rw [← hS2]
        have HS2 := Lib.hid (show S2 = S1 ++ eB un from hS2.trans (rfl))
        have zS2 : S2.size ≤ 20 := by rw [HS2.out]; (try simp only [ByteArray.size_append]); omega
        clear gs hS2 hlb x1
        have hlb := (HB.out.grew hG).lt
        have x2 := (HB.out.grew hG).cell 2
        go_wp2_with fail
        refine (appendText_any S2 name _ (by omega) (by omega)).mono ?_
        rintro e ws ⟨rfl, gs⟩
        replace hG := hG.trans gs
        obtain ⟨S3, hS3⟩ : ∃ S3 : ByteArray, S3 = S2 ++ ⟨(enc name.size).toArray⟩ ++ name := ⟨_, rfl⟩
        rw [← hS3]
        have HS3 := Lib.hid (show S3 = S2 ++ eB name.size ++ name from hS3.trans (rfl))
        have zS3 : S3.size ≤ 61 := by rw [HS3.out]; (try simp only [ByteArray.size_append]); omega
        clear gs hS3 hlb x2
        have hlb := (HB.out.grew hG).lt
        have x3 := (HB.out.grew hG).cell 3
        go_wp2_with fail
        refine (appendText_any S3 note _ (by omega) (by omega)).mono ?_
        rintro e ws ⟨rfl, gs⟩
        replace hG := hG.trans gs
        obtain ⟨S4, hS4⟩ : ∃ S4 : ByteArray, S4 = S3 ++ ⟨(enc note.size).toArray⟩ ++ note := ⟨_, rfl⟩
        rw [← hS4]
        have HS4 := Lib.hid (show S4 = S3 ++ eB note.size ++ note from hS4.trans (rfl))
        have zS4 : S4.size ≤ 471 := by rw [HS4.out]; (try simp only [ByteArray.size_append]); omega
        clear gs hS4 hlb x3
        have hlb := (HB.out.grew hG).lt
        have x4 := (HB.out.grew hG).cell 4
        go_wp2_with fail
        refine (appendNumber_any S4 ext.length _ (by omega) (by omega)).mono ?_
        rintro e ws ⟨rfl, gs⟩
        replace hG := hG.trans gs
        obtain ⟨S5, hS5⟩ : ∃ S5 : ByteArray, S5 = S4 ++ ⟨(enc ext.length).toArray⟩ := ⟨_, rfl⟩
        rw [← hS5]
        have HS5 := Lib.hid (show S5 = S4 ++ eB ext.length from hS5.trans (rfl))
        have zS5 : S5.size ≤ 481 := by rw [HS5.out]; (try simp only [ByteArray.size_append]); omega
        clear gs hS5 hlb x4
        have HS := Lib.hid (show S5 = bodyE ⟨(idn : Int), (un : Int), name, note, ext⟩ from by
          rw [HBE.out, HS5.out, HS4.out, HS3.out, HS2.out, HS1.out]; simp only [ByteArray.append_assoc])
        clear HS1 HS2 HS3 HS4 HS5 s0 s1 s2 s3 s4 zS1 zS2 zS3 zS4
        have hlb := (HB.out.grew hG).lt
        have x4 := (HB.out.grew hG).cell 4
        go_wp2_with fail
        obtain ⟨wl, hwl⟩ : ∃ wl, wl = ws := ⟨_, rfl⟩
        rw [← hwl] at hG ⊢
        clear hwl
        go_loopg [5, 46] ext.length (fun gk v i wr => ∃ k : Nat, k ≤ ext.length ∧ gk = ext.length - k ∧ i = .int .i64 k ∧ v = .string (S5 ++ runsE (ext.take k)) ∧ Grew (w.alloc (.cells #[.int .i64 (idn : Int), .int .i64 (un : Int), .string name, .string note, .slice A ext.length c] 24)) wr)
        case atStart => exact ⟨0, by omega, by omega, rfl, by rw [List.take_zero]; show _ = Value.string (S5 ++ ByteArray.empty); rw [ByteArray.append_empty], hG⟩
        case round =>
          obtain ⟨k, hk, hgk, rfl, rfl, hg⟩ := hrel
          have HGK := Lib.hid hgk
          have hrs := HRS.out k
          rw [List.length_take] at hrs
          obtain ⟨U, hU⟩ : ∃ U, S5 ++ runsE (ext.take k) = U := ⟨_, rfl⟩
          have hUs : U.size ≤ 801 := by rw [← hU, ByteArray.size_append]; omega
          rw [hU]
          have HU := Lib.hid hU
          clear hgk hrs hU
          by_cases hlt : k < ext.length
          · obtain ⟨b, off, f, n, rfl, hb, hv, hok, c0, c1⟩ := ((HL1.out.hold HG0.out).hold hg).runs.at_ hlt
            have hsm := HJB.out ext[k] (List.getElem_mem hlt)
            rw [hv] at hsm
            simp only at hsm
            obtain ⟨q0, q1, q2⟩ := hsm
            obtain ⟨fn, rfl⟩ := Int.eq_ofNat_of_zero_le q0
            obtain ⟨nn, rfl⟩ := Int.eq_ofNat_of_zero_le q1
            have HNX := Lib.hid (show S5 ++ runsE (ext.take (k + 1)) = U ++ eB fn ++ eB nn from by
              rw [List.take_succ_eq_append_getElem hlt, runsE_snoc, hv, ← ByteArray.append_assoc, HU.out]
              show U ++ (eB fn ++ eB nn) = _
              rw [ByteArray.append_assoc])
            have z0 := eB_size fn
            obtain ⟨wm, hwm⟩ : ∃ wm, wm = wr := ⟨_, rfl⟩
            subst hwm
            have HR := Lib.hid (Blk.new wm 58 #[.int .i64 (fn : Int), .int .i64 (nn : Int)] rfl)
            clear hv hok
            go_wp2_with fail
            refine wp_region_R [] (fun w' : World => w'.cell? ⟨wm.heap.size, 0, none⟩ = some (.int .i64 (fn : Int)) ∧ w'.cell? ⟨wm.heap.size, 1, none⟩ = some (.int .i64 (nn : Int))) (by kernel_rfl) ?_
            have hS := (show (fun w' : World => w'.cell? ⟨wm.heap.size, 0, none⟩ = some (.int .i64 (fn : Int)) ∧ w'.cell? ⟨wm.heap.size, 1, none⟩ = some (.int .i64 (nn : Int))) _ from ⟨HR.out.drew.cell 0, HR.out.drew.cell 1⟩)
            refine wpAnyR_takeQ (i := 0) (v := ?_) (some 50) rfl rfl (by kernel_rfl) (by kernel_rfl) (by kernel_rfl) (by kernel_rfl) (fun _ _ _ h => h) (Or.inl ⟨by rfl, ?_⟩) ?_
            rotate_left
            focus (intro wS hSw; (try dsimp only at hSw); go_simp; (try with_reducible rfl); (try (first | (rw [if_pos (by omega)]; (try go_simp); (try with_reducible rfl)) | (rw [if_neg (by omega)]; (try go_simp); (try with_reducible rfl)))))
            try simp only [Act.put, zA, zB, zC]
            refine wpAnyR_takeQ (i := 1) (v := ?_) (some 51) rfl rfl (by kernel_rfl) (by kernel_rfl) (by kernel_rfl) (by kernel_rfl) (fun _ _ _ h => h) (Or.inl ⟨by rfl, ?_⟩) ?_
            rotate_left
            focus (intro wS hSw; (try dsimp only at hSw); go_simp; (try with_reducible rfl); (try (first | (rw [if_pos (by omega)]; (try go_simp); (try with_reducible rfl)) | (rw [if_neg (by omega)]; (try go_simp); (try with_reducible rfl)))))
            try simp only [Act.put, zA, zB, zC]
            refine wpAnyR_take (i := 2) (v := ?_) [3, 4, 8, 9] (some 52) rfl rfl (by kernel_rfl) (by kernel_rfl) (by kernel_rfl) (by kernel_rfl) (by kernel_rfl) (by kernel_rfl) (by kernel_rfl) (fun _ _ _ h => h) (Or.inl ⟨by rfl, ?_⟩) hS ?_
            rotate_left
            focus (intro wS hSw; (try dsimp only at hSw); go_simp; (try with_reducible rfl); (try (first | (rw [if_pos (by omega)]; (try go_simp); (try with_reducible rfl)) | (rw [if_neg (by omega)]; (try go_simp); (try with_reducible rfl)))))
            try simp only [Act.put, zA, zB, zC]
            refine wpAnyR_take (i := 3) (v := ?_) [4, 8, 9] (some 53) rfl rfl (by kernel_rfl) (by kernel_rfl) (by kernel_rfl) (by kernel_rfl) (by kernel_rfl) (by kernel_rfl) (by kernel_rfl) (fun _ _ _ h => h) (Or.inl ⟨by rfl, ?_⟩) hS ?_
            rotate_left
            focus (intro wS hSw; (try dsimp only at hSw); go_simp; (try with_reducible rfl); (try (first | (rw [if_pos (by omega)]; (try go_simp); (try with_reducible rfl)) | (rw [if_neg (by omega)]; (try go_simp); (try with_reducible rfl)))))
            try simp only [Act.put, zA, zB, zC]
            refine wpAnyR_takeQ (i := 5) (v := ?_) (some 55) rfl rfl (by kernel_rfl) (by kernel_rfl) (by kernel_rfl) (by kernel_rfl) (fun _ _ _ h => h) (Or.inl ⟨by rfl, ?_⟩) ?_
            rotate_left
            focus (intro wS hSw; (try dsimp only at hSw); go_simp; (try with_reducible rfl); (try (first | (rw [if_pos (by omega)]; (try go_simp); (try with_reducible rfl)) | (rw [if_neg (by omega)]; (try go_simp); (try with_reducible rfl)))))
            try simp only [Act.put, zA, zB, zC]
            refine wpAnyR_take (i := 6) (v := ?_) [7, 8, 9] (some 56) rfl rfl (by kernel_rfl) (by kernel_rfl) (by kernel_rfl) (by kernel_rfl) (by kernel_rfl) (by kernel_rfl) (by kernel_rfl) (fun _ _ _ h => h) (Or.inl ⟨by rfl, ?_⟩) hS ?_
            rotate_left
            focus (intro wS hSw; (try dsimp only at hSw); go_simp; (try with_reducible rfl); (try (first | (rw [if_pos (by omega)]; (try go_simp); (try with_reducible rfl)) | (rw [if_neg (by omega)]; (try go_simp); (try with_reducible rfl)))))
            try simp only [Act.put, zA, zB, zC]
            refine wpAnyR_take (i := 7) (v := ?_) [8, 9] (some 57) rfl rfl (by kernel_rfl) (by kernel_rfl) (by kernel_rfl) (by kernel_rfl) (by kernel_rfl) (by kernel_rfl) (by kernel_rfl) (fun _ _ _ h => h) (Or.inl ⟨by rfl, ?_⟩) hS ?_
            rotate_left
            focus (intro wS hSw; (try dsimp only at hSw); go_simp; (try with_reducible rfl); (try (first | (rw [if_pos (by omega)]; (try go_simp); (try with_reducible rfl)) | (rw [if_neg (by omega)]; (try go_simp); (try with_reducible rfl)))))
            try simp only [Act.put, zA, zB, zC]
            refine wpAnyR_n1 (i := 4) rfl (by kernel_rfl) ?_
            intro K' hK
            rw [if_pos (by rfl)]
            simp only [List.getElem_toArray, List.getElem_cons_succ, List.getElem_cons_zero]
            go_wp2_with fail
            refine (appendNumber_any U fn _ (by omega) (by omega)).mono ?_
            rintro e w4 ⟨rfl, g4⟩
            obtain ⟨V, hV⟩ : ∃ V : ByteArray, V = U ++ ⟨(enc fn).toArray⟩ := ⟨_, rfl⟩
            rw [← hV]
            have HV := Lib.hid (show V = U ++ eB fn from hV)
            have zV : V.size ≤ 811 := by rw [HV.out, ByteArray.size_append]; omega
            clear hV
            go_wp2_with fail
            refine hK.out _ _ (.inr (fun _ => ⟨(HR.out.drew.grew g4).cell 0, (HR.out.drew.grew g4).cell 1⟩)) ?_
            clear hK hS
            refine wpAnyR_n1 (i := 8) rfl (by kernel_rfl) ?_
            intro K' hK
            rw [if_pos (by rfl)]
            simp only [List.getElem_toArray, List.getElem_cons_succ, List.getElem_cons_zero]
            go_wp2_with fail
            refine (appendNumber_any V nn _ (by omega) (by omega)).mono ?_
            rintro e w5 ⟨rfl, g5⟩
            go_wp2_with fail
            refine hK.out _ _ (.inr (fun _ => ⟨((HR.out.drew.grew g4).grew g5).cell 0, ((HR.out.drew.grew g4).grew g5).cell 1⟩)) ?_
            clear hK
            have hgn := ((hg.alloc (.cells #[.int .i64 (fn : Int), .int .i64 (nn : Int)] 58)).drew.trans g4).trans g5
            refine wpAnyR_takeQ (i := 9) (v := ?_) (some 5) rfl rfl (by kernel_rfl) (by kernel_rfl) (by kernel_rfl) (by kernel_rfl) (fun _ _ _ h => h) (Or.inl ⟨by rfl, ?_⟩) ?_
            rotate_left
            focus (intro wS hSw; (try dsimp only at hSw); go_simp; (try with_reducible rfl); (try (first | (rw [if_pos (by omega)]; (try go_simp); (try with_reducible rfl)) | (rw [if_neg (by omega)]; (try go_simp); (try with_reducible rfl)))))
            try simp only [Act.put, zA, zB, zC]
            refine wpAnyR_done (by kernel_rfl) ?_ _
            go_wp2_with fail
            go_roundg (ext.length - (k + 1))
            case measure => rw [HGK.out]; omega
            case rel => exact ⟨k + 1, by omega, by omega, by go_num, by rw [HNX.out, ← HV.out]; rfl, hgn⟩
          · obtain rfl : k = ext.length := by omega
            have HEE := Lib.hid (show encS ⟨(idn : Int), (un : Int), name, note, ext⟩ t = padS 1024 U from by
              rw [HE.out]
              show padS 1024 (bodyE _ ++ runsE ext) = _
              rw [← HS.out, ← HU.out, List.take_length])
            go_wp2_with fail
            refine (fill_any U _ (by omega)).mono ?_
            rintro e w6 ⟨rfl, g6⟩
            go_wp2_with fail
            go_ret
            exact ⟨ret_str (by rw [HEE.out]), (HG0.out.trans hg).trans g6⟩
end Go.Proofs.Ytnlaogneceanoaa
namespace Go.Proofs.Ytnlaogneceanoaa
set_option linter.unusedVariables false
set_option linter.unusedSimpArgs false
set_option linter.unusedSectionVars false
open Go.RowKit
theorem extract_app (a b : List UInt8) : (⟨(a ++ b).toArray⟩ : ByteArray).extract a.length (⟨(a ++ b).toArray⟩ : ByteArray).size = ⟨b.toArray⟩ := by
  rw [Lib.extract_eq]
  congr 2
  simp only []
  rw [List.drop_left]
  apply List.take_of_length_le
  show b.length ≤ (a ++ b).toArray.size - a.length
  simp
theorem extract_pre (a b : List UInt8) : (⟨(a ++ b).toArray⟩ : ByteArray).extract 0 a.length = ⟨a.toArray⟩ := by
  rw [Lib.extract_eq]
  congr 2
  simp
theorem RNum_app (n : Nat) (rest : List UInt8) (h : n < 18446744073709551616) : RNum ⟨(enc n ++ rest).toArray⟩ 0 = (n, ⟨rest.toArray⟩, 0) := by
  have hd := dec_enc n rest h
  have hp := enc_pos n
  have hd' : dec (⟨(enc n ++ rest).toArray⟩ : ByteArray).data.toList = (n, ((enc n).length - 1) + 1) := by rw [show (enc n).length - 1 + 1 = (enc n).length from by omega]; exact hd
  rw [RNum_some _ n _ hd', show (enc n).length - 1 + 1 = (enc n).length from by omega, extract_app]
theorem RCnt_app (n : Nat) (rest : List UInt8) (most : Int) (h : n < 18446744073709551616) (hm : (n : Int) ≤ most) : RCnt ⟨(enc n ++ rest).toArray⟩ 0 most = (n, ⟨rest.toArray⟩, 0) := by
  rw [RCnt, RNum_app n rest h, if_neg (by simp), if_neg (by simp; omega)]
theorem RTxt_app (t rest : List UInt8) (most : Int) (h : t.length < 18446744073709551616) (hm : (t.length : Int) ≤ most) : RTxt ⟨(enc t.length ++ (t ++ rest)).toArray⟩ 0 most = (⟨t.toArray⟩, ⟨rest.toArray⟩, 0) := by
  rw [RTxt, RCnt_app _ _ _ h hm, if_neg (by simp)]
  have hsz : (⟨(t ++ rest).toArray⟩ : ByteArray).size = t.length + rest.length := by show (t ++ rest).toArray.size = _; simp
  rw [if_neg (by simp only [hsz]; omega)]
  simp only []
  rw [extract_pre, extract_app]
theorem data_eq (s : ByteArray) : (⟨s.data.toList.toArray⟩ : ByteArray) = s := Lib.mk_data s
def Whole (s again left : ByteArray) (err : Int) : Prop := (err ≠ 0 ∧ left = ⟨#[]⟩) ∨ (err = 0 ∧ again ++ left = s)
def runsL : List (Int × Int) → List UInt8
  | [] => []
  | r :: l => enc r.1.toNat ++ (enc r.2.toNat ++ runsL l)
theorem runsE_data (l : List (Int × Int)) : (runsE l).data.toList = runsL l := by
  induction l with
  | nil => rfl
  | cons r l ih =>
    show (rB r ++ runsE l).data.toList = _
    unfold rB eB
    simp only [ByteArray.data_append, Array.toList_append, ih]
    simp [runsL]
def allL (l : Lab) (z : Nat) : List UInt8 := enc l.id.toNat ++ (enc l.unit.toNat ++ (enc l.name.size ++ (l.name.data.toList ++ (enc l.note.size ++ (l.note.data.toList ++ (enc l.ext.length ++ (runsL l.ext ++ List.replicate z 0)))))))
theorem pad_data (l : Lab) : (padS 1024 (bodyE l ++ runsE l.ext)).data.toList = allL l (1024 - (bodyE l ++ runsE l.ext).size) := by
  unfold padS bodyE allL zeros eB
  simp only [ByteArray.data_append, Array.toList_append, runsE_data]
  simp
theorem bytes_eq {a b : ByteArray} (h : a.data.toList = b.data.toList) : a = b := by
  apply ByteArray.ext
  exact Array.toList_inj.1 h
theorem encS_valid (l : Lab) (t : Int) (h : validL l t = true) : encS l t = padS 1024 (bodyE l ++ runsE l.ext) := by
  have hz : eqL l labZ = false := by
    obtain ⟨⟨v1, _⟩, _⟩ := valid_facts l t h
    unfold eqL labZ
    simp only
    rw [show (l.id == 0) = false from beq_eq_false_iff_ne.2 (by omega)]
    rfl
  unfold encS
  rw [if_neg (by rw [hz]; simp), if_pos h]
theorem eqL_iff (l k : Lab) : eqL l k = true ↔ l = k := by
  obtain ⟨i1, u1, n1, t1, e1⟩ := l
  obtain ⟨i2, u2, n2, t2, e2⟩ := k
  unfold eqL
  simp only [Bool.and_eq_true, beq_iff_eq, decide_eq_true_eq, Lab.mk.injEq]
  constructor
  · rintro ⟨h1, h2, h3, h4, h5⟩
    exact ⟨h1, h2, bytes_eq (by simpa [ByteArray.toList_eq] using h3), bytes_eq (by simpa [ByteArray.toList_eq] using h4), h5⟩
  · rintro ⟨rfl, rfl, rfl, rfl, rfl⟩
    exact ⟨rfl, rfl, rfl, rfl, rfl⟩
end Go.Proofs.Ytnlaogneceanoaa
