/- Chapter 7: Valid. Chapter 7: the reference's Valid. Plain facts on the encoding of numbers, and AppendNumber's walk. Number's walk (the reference's encoding). The other appends. decode's walk. The reader's methods. The reference's readers. Plain facts: what is encoded is decoded, and the other way round. Chapter 7: fill, Padded, Zero. Chapter 7: the encodings of labels. Chapter 7, plain: different labels have different encodings. Chapter 7: ValidName and the head, on both sides. Chapter 7: EncodeHead and DecodeHead, on both sides. The lists of runs that the laws take. Arguments opened: labels by value. The row's last step, for every law: the call returns true and turns nothing that was there. Chapter 7: awake; LabelSlots, LabelValid. Chapter 7: Decode. Chapter 7, plain: what is written is read again; both sides decode alike. Chapter 6, plain: the best run, the runs by size, and what is taken from them. -/
import Derived.WalkKit
import Derived.WalkSpells
import Derived.WalkLawsBesides
import Derived.Handy
import Derived.Lib.Hide
import Derived.Deep.RegionWith
import Derived.Deep.RegionHeld3
import Derived.Deep.DrawnRows
import Derived.PlainAid
import Derived.RegionTactic
import Derived.ChangeAlike
import Derived.OwnWalk
import Derived.IntWalk
import Derived.Lib.Strings
import Derived.ProofKit
import Derived.OpenShut
import Derived.Test.YtnlaogneceanoaaCkA
import Derived.Test.YtnlaogneceanoaaCkB
import Derived.Test.YtnlaogneceanoaaCkC
namespace Go.Proofs.Ytnlaogneceanoaa
set_option linter.unusedVariables false
set_option linter.unusedSimpArgs false
set_option linter.unusedSectionVars false
open Go.RowKit
set_option maxRecDepth 100000 in
set_option maxHeartbeats 4000000 in
theorem valid_lab (A : Option Addr) (c : Nat) (l : Lab) (t : Int) (w : World) (h : LabAt w A c l) (hs : l.ext.length ≤ 100000) :
    Calls Try.prog 43 #[.agg #[.int .i64 l.id, .int .i64 l.unit, .string l.name, .string l.note, .slice A l.ext.length c], .int .i64 t] w fun e w' => e = .returned (.bool (validL l t)) ∧ Grew w w' := by
  have HL := Lib.hid h
  have HF := Lib.hid (valid_false l t)
  have HT := Lib.hid (valid_true l t)
  have hns := h.name
  have hts := h.note
  clear h
  go_enter Try.func43, Try.ntmps43
  go_wp2_with fail
  refine (table_any _ _).mono ?_
  rintro e w1 ⟨rfl, rfl⟩
  go_wp2_with fail
  have HB1 := Lib.hid ((((Blk.new w 24 #[.int .i64 l.id, .int .i64 l.unit, .string l.name, .string l.note, .slice A l.ext.length c] rfl).alloc (.cells #[.int .i64 t] 3)).alloc (.cells #[.int .i64 (ttS t)] 3)).alloc (.cells #[.func (.func 72) #[] #[.pointer (some ⟨w.heap.size + 1, 0, none⟩)], .func (.func 73) #[] #[.pointer (some ⟨w.heap.size, 0, none⟩)], .func (.func 74) #[] #[.pointer (some ⟨w.heap.size, 0, none⟩)], .func (.func 75) #[] #[.pointer (some ⟨w.heap.size, 0, none⟩)], .func (.func 76) #[] #[.pointer (some ⟨w.heap.size, 0, none⟩)], .func (.func 79) #[] #[.pointer (some ⟨w.heap.size, 0, none⟩), .pointer (some ⟨w.heap.size + 1 + 1, 0, none⟩), .pointer (some ⟨w.heap.size + 1, 0, none⟩)]] 25))
  have HB2 := Lib.hid (((Blk.new (w.alloc (.cells #[.int .i64 l.id, .int .i64 l.unit, .string l.name, .string l.note, .slice A l.ext.length c] 24)) 3 #[.int .i64 t] (n := w.heap.size + 1) (by simp)).alloc (.cells #[.int .i64 (ttS t)] 3)).alloc (.cells #[.func (.func 72) #[] #[.pointer (some ⟨w.heap.size + 1, 0, none⟩)], .func (.func 73) #[] #[.pointer (some ⟨w.heap.size, 0, none⟩)], .func (.func 74) #[] #[.pointer (some ⟨w.heap.size, 0, none⟩)], .func (.func 75) #[] #[.pointer (some ⟨w.heap.size, 0, none⟩)], .func (.func 76) #[] #[.pointer (some ⟨w.heap.size, 0, none⟩)], .func (.func 79) #[] #[.pointer (some ⟨w.heap.size, 0, none⟩), .pointer (some ⟨w.heap.size + 1 + 1, 0, none⟩), .pointer (some ⟨w.heap.size + 1, 0, none⟩)]] 25))
  have HB3 := Lib.hid ((Blk.new ((w.alloc (.cells #[.int .i64 l.id, .int .i64 l.unit, .string l.name, .string l.note, .slice A l.ext.length c] 24)).alloc (.cells #[.int .i64 t] 3)) 3 #[.int .i64 (ttS t)] (n := w.heap.size + 1 + 1) (by simp)).alloc (.cells #[.func (.func 72) #[] #[.pointer (some ⟨w.heap.size + 1, 0, none⟩)], .func (.func 73) #[] #[.pointer (some ⟨w.heap.size, 0, none⟩)], .func (.func 74) #[] #[.pointer (some ⟨w.heap.size, 0, none⟩)], .func (.func 75) #[] #[.pointer (some ⟨w.heap.size, 0, none⟩)], .func (.func 76) #[] #[.pointer (some ⟨w.heap.size, 0, none⟩)], .func (.func 79) #[] #[.pointer (some ⟨w.heap.size, 0, none⟩), .pointer (some ⟨w.heap.size + 1 + 1, 0, none⟩), .pointer (some ⟨w.heap.size + 1, 0, none⟩)]] 25))
  have HB4 := Lib.hid (Blk.new (((w.alloc (.cells #[.int .i64 l.id, .int .i64 l.unit, .string l.name, .string l.note, .slice A l.ext.length c] 24)).alloc (.cells #[.int .i64 t] 3)).alloc (.cells #[.int .i64 (ttS t)] 3)) 25 #[.func (.func 72) #[] #[.pointer (some ⟨w.heap.size + 1, 0, none⟩)], .func (.func 73) #[] #[.pointer (some ⟨w.heap.size, 0, none⟩)], .func (.func 74) #[] #[.pointer (some ⟨w.heap.size, 0, none⟩)], .func (.func 75) #[] #[.pointer (some ⟨w.heap.size, 0, none⟩)], .func (.func 76) #[] #[.pointer (some ⟨w.heap.size, 0, none⟩)], .func (.func 79) #[] #[.pointer (some ⟨w.heap.size, 0, none⟩), .pointer (some ⟨w.heap.size + 1 + 1, 0, none⟩), .pointer (some ⟨w.heap.size + 1, 0, none⟩)]] (n := w.heap.size + 1 + 1 + 1) (by simp))
  have HG0 := Lib.hid ((((Grew.refl w).alloc (.cells #[.int .i64 l.id, .int .i64 l.unit, .string l.name, .string l.note, .slice A l.ext.length c] 24)).alloc (.cells #[.int .i64 t] 3)).alloc (.cells #[.int .i64 (ttS t)] 3) |>.alloc (.cells #[.func (.func 72) #[] #[.pointer (some ⟨w.heap.size + 1, 0, none⟩)], .func (.func 73) #[] #[.pointer (some ⟨w.heap.size, 0, none⟩)], .func (.func 74) #[] #[.pointer (some ⟨w.heap.size, 0, none⟩)], .func (.func 75) #[] #[.pointer (some ⟨w.heap.size, 0, none⟩)], .func (.func 76) #[] #[.pointer (some ⟨w.heap.size, 0, none⟩)], .func (.func 79) #[] #[.pointer (some ⟨w.heap.size, 0, none⟩), .pointer (some ⟨w.heap.size + 1 + 1, 0, none⟩), .pointer (some ⟨w.heap.size + 1, 0, none⟩)]] 25))
  obtain ⟨w0, hw0⟩ : ∃ w0, w0 = ((((w.alloc (.cells #[.int .i64 l.id, .int .i64 l.unit, .string l.name, .string l.note, .slice A l.ext.length c] 24)).alloc (.cells #[.int .i64 t] 3)).alloc (.cells #[.int .i64 (ttS t)] 3)).alloc (.cells #[.func (.func 72) #[] #[.pointer (some ⟨w.heap.size + 1, 0, none⟩)], .func (.func 73) #[] #[.pointer (some ⟨w.heap.size, 0, none⟩)], .func (.func 74) #[] #[.pointer (some ⟨w.heap.size, 0, none⟩)], .func (.func 75) #[] #[.pointer (some ⟨w.heap.size, 0, none⟩)], .func (.func 76) #[] #[.pointer (some ⟨w.heap.size, 0, none⟩)], .func (.func 79) #[] #[.pointer (some ⟨w.heap.size, 0, none⟩), .pointer (some ⟨w.heap.size + 1 + 1, 0, none⟩), .pointer (some ⟨w.heap.size + 1, 0, none⟩)]] 25)) := ⟨_, rfl⟩
  rw [← hw0] at HB1 HB2 HB3 HB4 HG0 ⊢
  clear hw0
  go_loopg [20] 6 (fun gk i wr => ∃ k : Nat, k ≤ 6 ∧ gk = 6 - k ∧ i = .int .i64 k ∧ (∀ j, j < k → condS l t j = true) ∧ Grew w0 wr)
  case atStart => exact ⟨0, by omega, by omega, rfl, fun j h => by omega, Grew.refl _⟩
  case round =>
    obtain ⟨k, hk, hgk, rfl, hall, hg⟩ := hrel
    have HGK := Lib.hid hgk
    have HA := Lib.hid hall
    have HG := Lib.hid hg
    have HL5 := Lib.hid (HL.out.hold (HG0.out.trans hg))
    have b4 := HB4.out.grew hg
    have hb4 := b4.lt
    have HX1 := Lib.hid (HB1.out.grew hg)
    have HX2 := Lib.hid (HB2.out.grew hg)
    have HX3 := Lib.hid (HB3.out.grew hg)
    have HNX := Lib.hid (show condS l t k = true → ∀ j, j < k + 1 → condS l t j = true from fun h j hj => by
      by_cases hjk : j = k
      · rw [hjk]; exact h
      · exact hall j (by omega))
    clear hgk hall hg
    by_cases hlt : k < 6
    · rcases (show k = 0 ∨ k = 1 ∨ k = 2 ∨ k = 3 ∨ k = 4 ∨ k = 5 by omega) with rfl | rfl | rfl | rfl | rfl | rfl
      · have x0 := b4.cell 0
        have HC := Lib.hid (cond0_any (w.heap.size + 1) wr t HX2.out)
        clear b4
        go_wp2_with fail
        refine HC.out.mono ?_
        rintro e w5 ⟨rfl, g5⟩
        cases hx : okT t with
        | false =>
          have HFF := Lib.hid (HF.out 0 hx)
          clear hx
          go_wp2_with fail
          go_ret
          exact ⟨ret_bool (by rw [HFF.out]), (HG0.out.trans HG.out).trans g5⟩
        | true =>
          have HNN := Lib.hid (HNX.out hx)
          clear hx
          go_wp2_with fail
          go_roundg (6 - (0 + 1))
          case measure => rw [HGK.out]; omega
          case rel => exact ⟨0 + 1, by omega, by omega, by go_num, HNN.out, HG.out.trans g5⟩
      · have x0 := b4.cell 1
        have HC := Lib.hid (cond1_any A c l w.heap.size wr HX1.out)
        clear b4
        go_wp2_with fail
        refine HC.out.mono ?_
        rintro e w5 ⟨rfl, g5⟩
        cases hx : idB l with
        | false =>
          have HFF := Lib.hid (HF.out 1 hx)
          clear hx
          go_wp2_with fail
          go_ret
          exact ⟨ret_bool (by rw [HFF.out]), (HG0.out.trans HG.out).trans g5⟩
        | true =>
          have HNN := Lib.hid (HNX.out hx)
          clear hx
          go_wp2_with fail
          go_roundg (6 - (1 + 1))
          case measure => rw [HGK.out]; omega
          case rel => exact ⟨1 + 1, by omega, by omega, by go_num, HNN.out, HG.out.trans g5⟩
      · have x0 := b4.cell 2
        have HC := Lib.hid (cond2_any A c l w.heap.size wr hns hts HX1.out)
        clear b4
        go_wp2_with fail
        refine HC.out.mono ?_
        rintro e w5 ⟨rfl, g5⟩
        cases hx : txB l with
        | false =>
          have HFF := Lib.hid (HF.out 2 hx)
          clear hx
          go_wp2_with fail
          go_ret
          exact ⟨ret_bool (by rw [HFF.out]), (HG0.out.trans HG.out).trans g5⟩
        | true =>
          have HNN := Lib.hid (HNX.out hx)
          clear hx
          go_wp2_with fail
          go_roundg (6 - (2 + 1))
          case measure => rw [HGK.out]; omega
          case rel => exact ⟨2 + 1, by omega, by omega, by go_num, HNN.out, HG.out.trans g5⟩
      · have x0 := b4.cell 3
        have HC := Lib.hid (cond3_any A c l w.heap.size wr (by omega) HX1.out)
        clear b4
        go_wp2_with fail
        refine HC.out.mono ?_
        rintro e w5 ⟨rfl, g5⟩
        cases hx : cnB l with
        | false =>
          have HFF := Lib.hid (HF.out 3 hx)
          clear hx
          go_wp2_with fail
          go_ret
          exact ⟨ret_bool (by rw [HFF.out]), (HG0.out.trans HG.out).trans g5⟩
        | true =>
          have HNN := Lib.hid (HNX.out hx)
          clear hx
          go_wp2_with fail
          go_roundg (6 - (3 + 1))
          case measure => rw [HGK.out]; omega
          case rel => exact ⟨3 + 1, by omega, by omega, by go_num, HNN.out, HG.out.trans g5⟩
      · have x0 := b4.cell 4
        have HC := Lib.hid (cond4_any A c l w.heap.size wr HL5.out hs HX1.out)
        clear b4
        go_wp2_with fail
        refine HC.out.mono ?_
        rintro e w5 ⟨rfl, g5⟩
        cases hx : jnB l with
        | false =>
          have HFF := Lib.hid (HF.out 4 hx)
          clear hx
          go_wp2_with fail
          go_ret
          exact ⟨ret_bool (by rw [HFF.out]), (HG0.out.trans HG.out).trans g5⟩
        | true =>
          have HNN := Lib.hid (HNX.out hx)
          clear hx
          go_wp2_with fail
          go_roundg (6 - (4 + 1))
          case measure => rw [HGK.out]; omega
          case rel => exact ⟨4 + 1, by omega, by omega, by go_num, HNN.out, HG.out.trans g5⟩
      · have x0 := b4.cell 5
        have HC := Lib.hid (cond5_any A c l t w.heap.size (w.heap.size + 1 + 1) (w.heap.size + 1) wr HL5.out hs (HA.out 4 (by omega)) HX1.out HX3.out HX2.out)
        clear b4
        go_wp2_with fail
        refine HC.out.mono ?_
        rintro e w5 ⟨rfl, g5⟩
        cases hx : inB l t with
        | false =>
          have HFF := Lib.hid (HF.out 5 hx)
          clear hx
          go_wp2_with fail
          go_ret
          exact ⟨ret_bool (by rw [HFF.out]), (HG0.out.trans HG.out).trans g5⟩
        | true =>
          have HNN := Lib.hid (HNX.out hx)
          clear hx
          go_wp2_with fail
          go_roundg (6 - (5 + 1))
          case measure => rw [HGK.out]; omega
          case rel => exact ⟨5 + 1, by omega, by omega, by go_num, HNN.out, HG.out.trans g5⟩
    · have HAT := Lib.hid (HT.out (fun j hj => HA.out j (by omega)))
      clear b4
      go_wp2_with fail
      go_ret
      exact ⟨ret_bool (by rw [HAT.out]), HG0.out.trans HG.out⟩
end Go.Proofs.Ytnlaogneceanoaa
namespace Go.Proofs.Ytnlaogneceanoaa
set_option linter.unusedVariables false
set_option linter.unusedSimpArgs false
set_option linter.unusedSectionVars false
open Go.RowKit
attribute [local go_sem ↓] Go.wp_at_zero Go.wp_at_succ
def rokR (t : Int) (r : Int × Int) : Prop := ttS t ≤ r.1 ∧ r.1 < t ∧ 1 ≤ r.2 ∧ r.2 ≤ t - r.1
theorem stepJ_pos (acc : List (Nat × Nat)) (r : Nat × Nat) (h : ∀ x ∈ acc, 0 < x.2) : ∀ x ∈ stepJ acc r, 0 < x.2 := by
  intro x hx
  unfold stepJ at hx
  split at hx
  · exact h x hx
  · rename_i hr
    split at hx
    · rcases List.mem_or_eq_of_mem_set hx with hx | rfl
      · exact h x hx
      · show 0 < _ + r.2
        omega
    · rcases List.mem_append.1 hx with hx | hx
      · exact h x hx
      · rw [List.mem_singleton.1 hx]
        omega
theorem joinS_pos (l : List (Int × Int)) : ∀ x ∈ joinS l, 0 < x.2 := by
  have key : ∀ (l : List (Int × Int)) (acc : List (Nat × Nat)), (∀ x ∈ acc, 0 < x.2) → ∀ x ∈ l.foldl (fun acc x => stepJ acc (clipS x)) acc, 0 < x.2 := by
    intro l
    induction l with
    | nil => intro acc h; exact h
    | cons r l ih => intro acc h; exact ih _ (stepJ_pos acc _ h)
  exact key l [] (by simp)
theorem rok_of (l : Lab) (t : Int) (hj : jnB l = true) (hi : inB l t = true) : ∀ r ∈ l.ext, rokR t r := by
  intro r hr
  have h1 : badR t r = false := by
    unfold inB at hi
    rw [Bool.not_eq_true', List.any_eq_false] at hi
    simpa using hi r hr
  have h2 : ¬ (r.1 < ttS t) ∧ ¬ (t < r.1 + r.2) := by
    unfold badR at h1
    simpa using h1
  unfold jnB at hj
  rw [Bool.and_eq_true, decide_eq_true_eq] at hj
  rw [← hj.1] at hr
  obtain ⟨x, hx, rfl⟩ := List.mem_map.1 hr
  have := joinS_pos l.ext x hx
  simp only at h2
  unfold rokR
  simp only
  omega
section
variable (A : Option Addr) (c : Nat) (l : Lab) (t : Int) (w : World)
end
end Go.Proofs.Ytnlaogneceanoaa
namespace Go.Proofs.Ytnlaogneceanoaa
set_option linter.unusedVariables false
set_option linter.unusedSimpArgs false
set_option linter.unusedSectionVars false
open Go.RowKit
def hib (m : Nat) : UInt8 := UInt8.ofNat (m % 128 + 128)
def encF : Nat → Nat → List UInt8
  | 0, n => [UInt8.ofNat n]
  | k + 1, n => if n < 128 then [UInt8.ofNat n] else hib n :: encF k (n / 128)
def enc (n : Nat) : List UInt8 := encF 9 n
def bcell (b : UInt8) : Value := .int .u8 (b.toNat : Int)
def lim (k : Nat) : Nat := 128 ^ (10 - k)
theorem lim_succ (k : Nat) (h : k < 10) : lim k = 128 * lim (k + 1) := by
  unfold lim
  rw [show 10 - k = (10 - (k + 1)) + 1 from by omega, Nat.pow_succ, Nat.mul_comm]
theorem lim_0 : lim 0 = 1180591620717411303424 := by decide
theorem lim_9 : lim 9 = 128 := by decide
def AppInv (n k m : Nat) (pre : List UInt8) : Prop := pre.length = k ∧ m < lim k ∧ enc n = pre ++ encF (9 - k) m
theorem app_start (n : Nat) (h : n < 18446744073709551616) : AppInv n 0 n [] := ⟨rfl, by rw [lim_0]; omega, rfl⟩
theorem app_k (n k m : Nat) (pre : List UInt8) (h : AppInv n k m pre) (hk : k ≤ 9) (hm : 128 ≤ m) : k < 9 := by
  rcases Nat.lt_or_ge k 9 with h9 | h9
  · exact h9
  · have e : k = 9 := by omega
    subst e
    have := h.2.1
    rw [lim_9] at this
    omega
theorem app_step (n k m : Nat) (pre : List UInt8) (h : AppInv n k m pre) (hk : k < 9) (hm : 128 ≤ m) : AppInv n (k + 1) (m / 128) (pre ++ [hib m]) := by
  obtain ⟨h1, h2, h3⟩ := h
  refine ⟨by simp [h1], ?_, ?_⟩
  · rw [lim_succ k (by omega)] at h2
    omega
  · rw [h3, show 9 - k = (9 - (k + 1)) + 1 from by omega, encF, if_neg (by omega), List.append_assoc]
    rfl
theorem app_end (n k m : Nat) (pre : List UInt8) (h : AppInv n k m pre) (hm : m < 128) : enc n = pre ++ [UInt8.ofNat m] := by
  obtain ⟨h1, h2, h3⟩ := h
  rw [h3]
  cases 9 - k with
  | zero => rfl
  | succ j => rw [encF, if_pos hm]
def arr (pre : List UInt8) : Array Value := (pre.map bcell ++ List.replicate (10 - pre.length) (Value.int .u8 0)).toArray
theorem arr_size (pre : List UInt8) (h : pre.length ≤ 10) : (arr pre).size = 10 := by simp [arr]; omega
theorem arr_next (pre : List UInt8) (k : Nat) (hk : pre.length = k) (h : k < 10) : (arr pre)[k]? = some (.int .u8 0) := by
  subst hk
  rw [arr, List.getElem?_toArray, List.getElem?_append_right (by simp), List.getElem?_replicate, if_pos (by simp; omega)]
theorem arr_set (pre : List UInt8) (k : Nat) (hk : pre.length = k) (h : k < 10) (b : UInt8) : (arr pre).setIfInBounds k (bcell b) = arr (pre ++ [b]) := by
  subst hk
  simp only [arr, List.setIfInBounds_toArray, List.map_append, List.map_cons, List.map_nil, List.append_assoc, List.length_append, List.length_cons, List.length_nil]
  congr 1
  rw [List.set_append]
  simp
  rw [show 10 - pre.length = (9 - pre.length) + 1 from by omega, List.replicate_succ, List.set_cons_zero]
theorem arr_get (pre : List UInt8) (j : Nat) (hj : j < pre.length) : (arr pre)[j]? = some (bcell pre[j]) := by
  simp [arr, List.getElem?_append_left, hj]
theorem or128 (m : Nat) : bits BinOp.or IntKind.u8 ((m : Int) % 256) 128 = ((hib m).toNat : Int) := by
  have h : ∀ x : Fin 256, bits BinOp.or IntKind.u8 ((x.val : Nat) : Int) 128 = ((UInt8.ofNat (x.val % 128 + 128)).toNat : Int) := by decide +kernel
  have h1 := h ⟨m % 256, Nat.mod_lt _ (by omega)⟩
  simp only at h1
  rw [show (m : Int) % 256 = ((m % 256 : Nat) : Int) from by omega, h1, Nat.mod_mod_of_dvd _ (by decide)]; rfl
theorem conv_row {P : Program} (W : World) (src dst e : TypeId) (g cap n : Nat) (l : List UInt8) (cs : Array Value) (t : TypeId) (hs : P.underlying src = some (.slice e)) (he : P.underlying e = some (.int .u8)) (hd : P.underlying dst = some .string)
    (hn : n = l.length) (h : W.heap[g]? = some (.cells cs t (0, 0))) (hc : ∀ j (hj : j < l.length), cs[j]? = some (bcell l[j])) :
    (convert src dst (.slice (some ⟨g, 0, none⟩) n cap)).run P W = .ok (.string ⟨l.toArray⟩) W := by
  subst hn
  refine run_convert_bytes_back W src dst e ⟨g, 0, none⟩ cap l hs he hd ?_
  intro j hj
  have : (⟨g, 0, none⟩ : Addr).add j = ⟨g, j, none⟩ := by unfold Addr.add; split <;> simp_all
  rw [this, cell_of_row W g j cs t (0, 0) h, hc j hj]
  rfl
theorem slice10 (W : World) (a : Addr) (k : Nat) (hk : k ≤ 9) : (Instr.sliceAt 151 (.pointer (some a)) none (some (.int .i64 ((k : Int) + 1))) none).run Try.prog W = .ok (.slice (some a) (k + 1) 10) W := by
  have hal : Try.prog.arrayLen 151 = 10 := by kernel_rfl
  rw [run_sliceAt_array_h W 151 a (by kernel_rfl) .i64 ((k : Int) + 1) (by omega) (by rw [hal]; omega)]
  rw [hal]
  have hz : (sizeOf (Try.prog.elem 151)).run Try.prog W = .ok 1 W := by kernel_rfl
  rw [hz]
  simp only [Result.andThen, slicedAt]
  have e : ((k : Int) + 1).toNat = k + 1 := by omega
  rw [e]
  simp [Addr.add]
set_option maxRecDepth 100000 in
set_option maxHeartbeats 400000 in
theorem appendNumber_any (s : ByteArray) (n : Nat) (w : World) (hn : n < 18446744073709551616) (hs : s.size ≤ 1000000) :
    Calls Try.prog 94 #[.string s, .int .u64 n] w fun e w' => e = .returned (.string (s ++ ⟨(enc n).toArray⟩)) ∧ Grew w w' := by
  go_enter Try.func94, Try.ntmps94
  go_wp2
  go_loopw [1, 6] (fun a b wr => ∃ (k m : Nat) (pre : List UInt8), k ≤ 9 ∧ m < 18446744073709551616 ∧ a = .int .u64 m ∧ b = .int .i64 k ∧ wr = w.alloc (.cells (arr pre) 151) ∧ AppInv n k m pre) (fun _ b _ => 10 - (intOf b).toNat)
  case atStart => exact ⟨0, n, [], by omega, hn, rfl, rfl, rfl, app_start n hn⟩
  case round =>
    obtain ⟨k, m, pre, hk, hm, rfl, rfl, rfl, hinv⟩ := hrel
    have hsz := arr_size pre (by have := hinv.1; omega)
    have hcell := arr_next pre k hinv.1 (by omega)
    by_cases hlt : m < 128
    · have hend := app_end n k m pre hinv hlt
      have hlen : (enc n).length = k + 1 := by rw [hend]; simp [hinv.1]
      have hset : (arr pre).setIfInBounds k (.int .u8 m) = arr (enc n) := by
        rw [hend, ← arr_set pre k hinv.1 (by omega) (UInt8.ofNat m), bcell, UInt8.toNat_ofNat', Nat.mod_eq_of_lt (by omega)]
      have hconv : (convert 150 9 (.slice (some ⟨w.heap.size, 0, none⟩) (k + 1) 10)).run Try.prog (w.alloc (.cells (arr (enc n)) 151)) = .ok (.string ⟨(enc n).toArray⟩) (w.alloc (.cells (arr (enc n)) 151)) :=
        conv_row _ 150 9 5 _ 10 (k + 1) (enc n) (arr (enc n)) 151 Try.underlying150 Try.underlying5 Try.underlying9 hlen.symm (heap_alloc_new w _) (fun j hj => arr_get (enc n) j hj)
      have hel : (enc n).length ≤ 10 := by omega
      have hsl := fun W => slice10 W ⟨w.heap.size, 0, none⟩ k hk
      have hE := Lib.hid hend
      have hL := Lib.hid hlen
      clear hend hlen
      go_wp2
      go_ret
      exact ⟨rfl, by (repeat' first | (with_reducible exact Grew.refl _) | (with_reducible assumption) | (with_reducible refine Grew.alloc ?_ _) | (with_reducible refine Grew.drew ?_) | (with_reducible refine Grew.drewN ?_ _) | (with_reducible refine Grew.setRow ?_ (by first | (simp; done) | (simp; omega) | omega) _) | (with_reducible refine Grew.setCell ?_ (by first | (simp; done) | (simp; omega) | omega) _) | ((with_reducible apply Grew.trans); rotate_left; (with_reducible assumption)) | ((with_reducible apply Grew.turn); rotate_left; (with_reducible assumption); (focus (intro i hi; first | omega | (simp at hi; omega)))) | fail)⟩
    · have h9 := app_k n k m pre hinv hk (by omega)
      have hst : (arr pre).setIfInBounds k (.int .u8 (bits BinOp.or IntKind.u8 ((m : Int) % 256) 128)) = arr (pre ++ [hib m]) := by
        rw [← arr_set pre k hinv.1 (by omega), bcell, or128]
      go_wp2
      go_roundw
      case rel => exact ⟨k + 1, m / 128, _, by omega, by omega, by go_num, by go_num, rfl, app_step n k m pre hinv h9 (by omega)⟩
      case measure => simp [intOf]; omega
end Go.Proofs.Ytnlaogneceanoaa
namespace Go.Proofs.Ytnlaogneceanoaa
set_option linter.unusedVariables false
set_option linter.unusedSimpArgs false
set_option linter.unusedSectionVars false
open Go.RowKit
attribute [local go_sem ↓] Go.wp_at_zero Go.wp_at_succ
theorem encF_len (k : Nat) : ∀ n, (encF k n).length ≤ k + 1 := by
  induction k with
  | zero => intro n; simp [encF]
  | succ k ih => intro n; rw [encF]; split
                 · simp
                 · have := ih (n / 128); simp; omega
end Go.Proofs.Ytnlaogneceanoaa
namespace Go.Proofs.Ytnlaogneceanoaa
set_option linter.unusedVariables false
set_option linter.unusedSimpArgs false
set_option linter.unusedSectionVars false
open Go.RowKit
set_option maxRecDepth 100000 in
set_option maxHeartbeats 400000 in
theorem appendText_any (s t : ByteArray) (w : World) (hs : s.size ≤ 1000000) (ht : t.size ≤ 1000000) :
    Calls Try.prog 95 #[.string s, .string t] w fun e w' => e = .returned (.string (s ++ ⟨(enc t.size).toArray⟩ ++ t)) ∧ Grew w w' := by
  have hl := encF_len 9 t.size
  have hl' : (enc t.size).length ≤ 10 := hl
  clear hl
  go_enter Try.func95, Try.ntmps95
  go_wp2_with fail
  refine (appendNumber_any s t.size w (by omega) hs).mono ?_
  rintro e w' ⟨rfl, hg⟩
  go_wp2_with fail
  go_ret
  exact ⟨rfl, by (repeat' first | (with_reducible exact Grew.refl _) | (with_reducible assumption) | (with_reducible refine Grew.alloc ?_ _) | (with_reducible refine Grew.drew ?_) | (with_reducible refine Grew.drewN ?_ _) | (with_reducible refine Grew.setRow ?_ (by first | (simp; done) | (simp; omega) | omega) _) | (with_reducible refine Grew.setCell ?_ (by first | (simp; done) | (simp; omega) | omega) _) | ((with_reducible apply Grew.trans); rotate_left; (with_reducible assumption)) | ((with_reducible apply Grew.turn); rotate_left; (with_reducible assumption); (focus (intro i hi; first | omega | (simp at hi; omega)))) | fail)⟩
end Go.Proofs.Ytnlaogneceanoaa
namespace Go.Proofs.Ytnlaogneceanoaa
set_option linter.unusedVariables false
set_option linter.unusedSimpArgs false
set_option linter.unusedSectionVars false
open Go.RowKit
def decF : Nat → Nat → List UInt8 → Nat × Nat
  | _, _, [] => (0, 0)
  | i, acc, b :: l =>
    if 10 ≤ i then (0, 0) else if i = 9 ∧ 1 < b.toNat then (0, 0)
    else if b.toNat < 128 then (if b.toNat = 0 ∧ 0 < i then (0, 0) else (acc + b.toNat % 128 * 128 ^ i, i + 1))
    else decF (i + 1) (acc + b.toNat % 128 * 128 ^ i) l
def dec (l : List UInt8) : Nat × Nat := decF 0 0 l
def decV (l : List UInt8) : Nat := (dec l).1
def decN (l : List UInt8) : Nat := (dec l).2
theorem pow128_9 : (128 : Nat) ^ 9 = 9223372036854775808 := by decide
end Go.Proofs.Ytnlaogneceanoaa
namespace Go.Proofs.Ytnlaogneceanoaa
set_option linter.unusedVariables false
set_option linter.unusedSimpArgs false
set_option linter.unusedSectionVars false
open Go.RowKit
def RNum (s : ByteArray) (err : Int) : Nat × ByteArray × Int :=
  if err ≠ 0 then (0, s, err) else if decN s.data.toList = 0 then (0, ⟨#[]⟩, 11) else (decV s.data.toList, s.extract (decN s.data.toList) s.size, 0)
def RCnt (s : ByteArray) (err most : Int) : Nat × ByteArray × Int :=
  if (RNum s err).2.2 ≠ 0 then (0, (RNum s err).2.1, (RNum s err).2.2)
  else if most < 0 ∨ most < ((RNum s err).1 : Int) then (0, ⟨#[]⟩, 8) else RNum s err
def RTxt (s : ByteArray) (err most : Int) : ByteArray × ByteArray × Int :=
  if (RCnt s err most).2.2 ≠ 0 then (⟨#[]⟩, (RCnt s err most).2.1, (RCnt s err most).2.2)
  else if (RCnt s err most).2.1.size < (RCnt s err most).1 then (⟨#[]⟩, ⟨#[]⟩, 11)
  else ((RCnt s err most).2.1.extract 0 (RCnt s err most).1, (RCnt s err most).2.1.extract (RCnt s err most).1 (RCnt s err most).2.1.size, 0)
end Go.Proofs.Ytnlaogneceanoaa
namespace Go.Proofs.Ytnlaogneceanoaa
set_option linter.unusedVariables false
set_option linter.unusedSimpArgs false
set_option linter.unusedSectionVars false
open Go.RowKit
theorem RNum_some (s : ByteArray) (v n : Nat) (h : dec s.data.toList = (v, n + 1)) : RNum s 0 = (v, s.extract (n + 1) s.size, 0) := by
  rw [RNum, if_neg (by simp), if_neg (by rw [decN, h]; simp), decN, decV, h]
end Go.Proofs.Ytnlaogneceanoaa
namespace Go.Proofs.Ytnlaogneceanoaa
set_option linter.unusedVariables false
set_option linter.unusedSimpArgs false
set_option linter.unusedSectionVars false
open Go.RowKit
theorem hib_toNat (n : Nat) : (hib n).toNat = n % 128 + 128 := by
  rw [hib, UInt8.toNat_ofNat', Nat.mod_eq_of_lt (by omega)]
theorem ofNat_lt (n : Nat) (h : n < 256) : (UInt8.ofNat n).toNat = n := by
  rw [UInt8.toNat_ofNat', Nat.mod_eq_of_lt (by omega)]
theorem digit_sum (n i : Nat) : n % 128 * 128 ^ i + n / 128 * 128 ^ (i + 1) = n * 128 ^ i := by
  rw [Nat.pow_succ, ← Nat.mul_assoc, Nat.mul_right_comm, ← Nat.add_mul]
  congr 1
  omega
theorem decF_enc : ∀ (k i acc n : Nat) (rest : List UInt8), i + k = 9 → n * 128 ^ i < 18446744073709551616 → (0 < i → 0 < n) →
    decF i acc (encF k n ++ rest) = (acc + n * 128 ^ i, i + (encF k n).length) := by
  intro k
  induction k with
  | zero =>
    intro i acc n rest hi hn hp
    obtain rfl : i = 9 := by omega
    rw [pow128_9] at hn
    have hb := ofNat_lt n (by omega)
    have hp' := hp (by omega)
    simp only [encF, List.singleton_append, List.length_singleton]
    rw [decF, if_neg (by omega), hb, if_neg (by omega), if_pos (by omega), if_neg (by omega), Nat.mod_eq_of_lt (by omega)]
  | succ k ih =>
    intro i acc n rest hi hn hp
    rw [encF]
    split
    · rename_i h
      have hb := ofNat_lt n (by omega)
      simp only [List.singleton_append, List.length_singleton]
      rw [decF, if_neg (by omega), hb, if_neg (by omega), if_pos h, if_neg (by omega), Nat.mod_eq_of_lt h]
    · rename_i h
      have hb := hib_toNat n
      simp only [List.cons_append, List.length_cons]
      rw [decF, if_neg (by omega), hb, if_neg (by omega), if_neg (by omega), show (n % 128 + 128) % 128 = n % 128 from by omega]
      have hs := digit_sum n i
      rw [ih (i + 1) _ (n / 128) rest (by omega) (by omega) (by omega), Nat.add_assoc, hs]
      congr 1
      omega
theorem dec_enc (n : Nat) (rest : List UInt8) (h : n < 18446744073709551616) : dec (enc n ++ rest) = (n, (enc n).length) := by
  have := decF_enc 9 0 0 n rest (by omega) (by simpa using h) (by omega)
  simpa [dec, enc] using this
theorem encF_pos (k n : Nat) : 0 < (encF k n).length := by
  cases k with
  | zero => simp [encF]
  | succ k => rw [encF]; split <;> simp
theorem enc_len (n : Nat) : (enc n).length ≤ 10 := encF_len 9 n
theorem enc_pos (n : Nat) : 0 < (enc n).length := encF_pos 9 n
end Go.Proofs.Ytnlaogneceanoaa
namespace Go.Proofs.Ytnlaogneceanoaa
set_option linter.unusedVariables false
set_option linter.unusedSimpArgs false
set_option linter.unusedSectionVars false
open Go.RowKit
theorem ret_str {a b : ByteArray} (h : a = b) : Ending.returned (.string a) = .returned (.string b) := by rw [h]
def zeros (n : Nat) : ByteArray := ⟨(List.replicate n (0 : UInt8)).toArray⟩
theorem zeros_size (n : Nat) : (zeros n).size = n := by simp [zeros, ByteArray.size]
def padS (n : Nat) (s : ByteArray) : ByteArray := s ++ zeros (n - s.size)
theorem info_u8 : (Try.prog.info? 5).map (fun i => (i.zero, i.size, i.bytes)) = some (some (.int .u8 0), 1, 1) := by kernel_rfl
set_option maxRecDepth 100000 in
theorem made_zero (w : World) (n : Nat) (hn : n ≤ 1000000) : (Instr.makeSlice 150 (.int .i64 (n : Int)) (.int .i64 (n : Int))).run Try.prog w = .ok (.slice (some ⟨w.heap.size, 0, none⟩) n n) (w.alloc (.cells (Array.replicate n (Value.int .u8 0)) 5)) := by
  obtain ⟨i, hi, hz0, hz1, hz2⟩ := info_parts info_u8
  have h := run_make (P := Try.prog) w 150 5 i _ Try.underlying150 hi hz0 .i64 .i64 (n : Int) (n : Int) (by omega) (by omega) (by rw [hz2]; omega) (by omega)
  rw [hz1] at h
  simp only [Int.toNat_natCast, Nat.mul_one] at h
  rw [h]
  congr 3
  unfold madeCells
  apply Array.ext
  · simp
  · intro j h1 h2
    simp [Value.cells, Nat.mod_one]
set_option maxRecDepth 100000 in
theorem conv_zero (w : World) (n : Nat) : (convert 150 9 (.slice (some ⟨w.heap.size, 0, none⟩) n n)).run Try.prog (w.alloc (.cells (Array.replicate n (Value.int .u8 0)) 5)) = .ok (.string (zeros n)) (w.alloc (.cells (Array.replicate n (Value.int .u8 0)) 5)) :=
  conv_row _ 150 9 5 _ n n (List.replicate n 0) _ 5 Try.underlying150 Try.underlying5 Try.underlying9 (by simp) (heap_alloc_new w _) (fun j hj => by
    simp only [List.length_replicate] at hj
    simp [hj, bcell])
set_option maxRecDepth 100000 in
set_option maxHeartbeats 1000000 in
theorem fill_any (s : ByteArray) (w : World) (hs : s.size ≤ 1024) :
    Calls Try.prog 93 #[.string s] w fun e w' => e = .returned (.string (padS 1024 s)) ∧ Grew w w' := by
  obtain ⟨n, hn⟩ : ∃ n, 1024 - s.size = n := ⟨_, rfl⟩
  have h1 : (1024 : Int) - (s.size : Int) = (n : Int) := by omega
  have HE := Lib.hid (show padS 1024 s = s ++ zeros n from by unfold padS; rw [hn])
  have hmk := made_zero w n (by omega)
  have hcv := conv_zero w n
  have hzs := zeros_size n
  have hn2 : n ≤ 1024 := by omega
  clear hn
  go_enter Try.func93, Try.ntmps93
  go_wp2_with fail
  go_ret
  exact ⟨ret_str (by rw [HE.out]), by (repeat' first | (with_reducible exact Grew.refl _) | (with_reducible assumption) | (with_reducible refine Grew.alloc ?_ _) | (with_reducible refine Grew.drew ?_) | (with_reducible refine Grew.drewN ?_ _) | (with_reducible refine Grew.setRow ?_ (by first | (simp; done) | (simp; omega) | omega) _) | (with_reducible refine Grew.setCell ?_ (by first | (simp; done) | (simp; omega) | omega) _) | ((with_reducible apply Grew.trans); rotate_left; (with_reducible assumption)) | ((with_reducible apply Grew.turn); rotate_left; (with_reducible assumption); (focus (intro i hi; first | omega | (simp at hi; omega)))) | fail)⟩
end Go.Proofs.Ytnlaogneceanoaa
namespace Go.Proofs.Ytnlaogneceanoaa
set_option linter.unusedVariables false
set_option linter.unusedSimpArgs false
set_option linter.unusedSectionVars false
open Go.RowKit
attribute [local go_sem ↓] Go.wp_at_zero Go.wp_at_succ
def eB (n : Nat) : ByteArray := ⟨(enc n).toArray⟩
theorem eB_size (n : Nat) : (eB n).size ≤ 10 := enc_len n
def rB (r : Int × Int) : ByteArray := eB r.1.toNat ++ eB r.2.toNat
def runsE : List (Int × Int) → ByteArray
  | [] => ⟨#[]⟩
  | r :: l => rB r ++ runsE l
def bodyE (l : Lab) : ByteArray := eB l.id.toNat ++ (eB l.unit.toNat ++ (eB l.name.size ++ (l.name ++ (eB l.note.size ++ (l.note ++ eB l.ext.length)))))
def encS (l : Lab) (t : Int) : ByteArray := if okT t = true ∧ eqL l labZ = true then padS 1024 ⟨#[]⟩ else if validL l t = true then padS 1024 (bodyE l ++ runsE l.ext) else ⟨#[]⟩
theorem runsE_snoc (l : List (Int × Int)) (r : Int × Int) : runsE (l ++ [r]) = runsE l ++ rB r := by
  induction l with
  | nil => show rB r ++ ByteArray.empty = ByteArray.empty ++ rB r; rw [ByteArray.append_empty]; exact (ByteArray.empty_append).symm
  | cons x l ih => show rB x ++ runsE (l ++ [r]) = (rB x ++ runsE l) ++ rB r; rw [ih, ByteArray.append_assoc]
theorem rB_size (r : Int × Int) : (rB r).size ≤ 20 := by
  unfold rB; rw [ByteArray.size_append]; have := eB_size r.1.toNat; have := eB_size r.2.toNat; omega
theorem runsE_size (l : List (Int × Int)) : (runsE l).size ≤ 20 * l.length := by
  induction l with
  | nil => simp [runsE]; rfl
  | cons r l ih => show (rB r ++ runsE l).size ≤ _; rw [ByteArray.size_append, List.length_cons]; have := rB_size r; omega
theorem bodyE_size (l : Lab) (h1 : l.name.size ≤ 31) (h2 : l.note.size ≤ 400) : (bodyE l).size ≤ 481 := by
  unfold bodyE
  simp only [ByteArray.size_append]
  have := eB_size l.id.toNat; have := eB_size l.unit.toNat; have := eB_size l.name.size; have := eB_size l.note.size; have := eB_size l.ext.length
  omega
theorem empty_bytes (s : ByteArray) : (⟨#[]⟩ : ByteArray) ++ s = s := ByteArray.empty_append
theorem valid_facts (l : Lab) (t : Int) (h : validL l t = true) : (1 ≤ l.id ∧ l.id ≤ 1099511627776 ∧ 0 ≤ l.unit ∧ l.unit ≤ 1099511627776) ∧ (l.name.size ≤ 31 ∧ l.note.size ≤ 400) ∧ (1 ≤ l.ext.length ∧ l.ext.length ≤ 16) ∧ jnB l = true := by
  unfold validL at h
  simp only [Bool.and_eq_true] at h
  obtain ⟨_, h1, h2, h3, h4, _⟩ := h
  exact ⟨by simpa [idB] using h1, by simpa [txB] using h2, by simpa [cnB] using h3, h4⟩
theorem equalZ_any (A : Option Addr) (c : Nat) (l : Lab) (w : World) (h : LabAt w A c l) (hl : l.ext.length ≤ 100000) :
    Calls Try.prog 62 #[.agg #[.int .i64 l.id, .int .i64 l.unit, .string l.name, .string l.note, .slice A l.ext.length c], .agg #[.int .i64 0, .int .i64 0, .string ⟨#[]⟩, .string ⟨#[]⟩, .slice none 0 0]] w fun e w' => e = .returned (.bool (eqL l labZ)) ∧ Grew w w' :=
  lequal_any A none c 0 l labZ w h (LabAt.zero w) hl (by simp [labZ])
set_option maxRecDepth 100000 in
set_option maxHeartbeats 4000000 in
theorem encode_lab (A : Option Addr) (c : Nat) (l : Lab) (t : Int) (w : World) (h : LabAt w A c l) (hs : l.ext.length ≤ 100000) (t0 : -9223372036854775808 ≤ t) (t1 : t ≤ 9223372036854775807) :
    Calls Try.prog 58 #[.agg #[.int .i64 l.id, .int .i64 l.unit, .string l.name, .string l.note, .slice A l.ext.length c], .int .i64 t] w fun e w' => e = .returned (.string (encS l t)) ∧ Grew w w' := by
  have g0 := (Grew.refl w).alloc (.cells #[.int .i64 l.id, .int .i64 l.unit, .string l.name, .string l.note, .slice A l.ext.length c] 24)
  have HL := Lib.hid h
  have HL0 := Lib.hid (h.hold g0)
  have HB0 := Lib.hid (Blk.new w 24 #[.int .i64 l.id, .int .i64 l.unit, .string l.name, .string l.note, .slice A l.ext.length c] rfl)
  have HG0 := Lib.hid g0
  have HV := Lib.hid (fun (hv : validL l t = true) => valid_facts l t hv)
  have HZ := Lib.hid (fun w' (g : Grew w w') => equalZ_any A c l w' (HL.out.hold g) hs)
  have HVC := Lib.hid (fun w' (g : Grew w w') => valid_lab A c l t w' (HL.out.hold g) hs)
  clear h g0
  cases ho : okT t with
  | false =>
    have HO := Lib.hid ho
    have hvf := valid_false l t 0 ho
    have HVF := Lib.hid hvf
    have HE := Lib.hid (show encS l t = ⟨#[]⟩ from by unfold encS; rw [if_neg (by rw [ho]; simp), if_neg (by rw [hvf]; simp)])
    clear ho hvf
    go_enter Try.func58, Try.ntmps58
    go_wp2_with fail
    refine (tracksOK_any _ _).mono ?_
    rintro e w1 ⟨rfl, rfl⟩
    rw [HO.out]
    go_wp2_with fail
    refine (HVC.out _ HG0.out).mono ?_
    rintro e w2 ⟨rfl, g2⟩
    rw [HVF.out]
    go_wp2_with fail
    go_ret
    exact ⟨ret_str (by rw [HE.out]), HG0.out.trans g2⟩
  | true =>
    have HO := Lib.hid ho
    clear ho
    cases hz : eqL l labZ with
    | true =>
      have HZZ := Lib.hid hz
      have HE := Lib.hid (show encS l t = padS 1024 ⟨#[]⟩ from by unfold encS; rw [if_pos ⟨HO.out, hz⟩])
      clear hz
      go_enter Try.func58, Try.ntmps58
      go_wp2_with fail
      refine (tracksOK_any _ _).mono ?_
      rintro e w1 ⟨rfl, rfl⟩
      rw [HO.out]
      go_wp2_with fail
      refine (HZ.out _ HG0.out).mono ?_
      rintro e w2 ⟨rfl, g2⟩
      rw [HZZ.out]
      go_wp2_with fail
      refine (fill_any ⟨#[]⟩ w2 (by decide)).mono ?_
      rintro e w3 ⟨rfl, g3⟩
      go_wp2_with fail
      go_ret
      exact ⟨ret_str (by rw [HE.out]), (HG0.out.trans g2).trans g3⟩
    | false =>
      have HZZ := Lib.hid hz
      clear hz
      cases hv : validL l t with
      | false =>
        have HVF := Lib.hid hv
        have HE := Lib.hid (show encS l t = ⟨#[]⟩ from by unfold encS; rw [if_neg (by rw [HZZ.out]; simp), if_neg (by rw [hv]; simp)])
        clear hv
        go_enter Try.func58, Try.ntmps58
        go_wp2_with fail
        refine (tracksOK_any _ _).mono ?_
        rintro e w1 ⟨rfl, rfl⟩
        rw [HO.out]
        go_wp2_with fail
        refine (HZ.out _ HG0.out).mono ?_
        rintro e w2 ⟨rfl, g2⟩
        rw [HZZ.out]
        have hl2 := (HB0.out.grew g2).lt
        have x0 := (HB0.out.grew g2).cell 0
        have x1 := (HB0.out.grew g2).cell 1
        have x2 := (HB0.out.grew g2).cell 2
        have x3 := (HB0.out.grew g2).cell 3
        have x4 := (HB0.out.grew g2).cell 4
        go_wp2_with fail
        refine (HVC.out _ (HG0.out.trans g2)).mono ?_
        rintro e w3 ⟨rfl, g3⟩
        rw [HVF.out]
        go_wp2_with fail
        go_ret
        exact ⟨ret_str (by rw [HE.out]), (HG0.out.trans g2).trans g3⟩
      | true =>
        have HVT := Lib.hid hv
        have HE := Lib.hid (show encS l t = padS 1024 (bodyE l ++ runsE l.ext) from by unfold encS; rw [if_neg (by rw [HZZ.out]; simp), if_pos hv])
        obtain ⟨⟨v1, v2, v3, v4⟩, ⟨v5, v6⟩, ⟨v7, v8⟩, vj⟩ := HV.out hv
        have HJB := Lib.hid (jn_bd l vj)
        clear hv vj
        go_enter Try.func58, Try.ntmps58
        go_wp2_with fail
        refine (tracksOK_any _ _).mono ?_
        rintro e w1 ⟨rfl, rfl⟩
        rw [HO.out]
        go_wp2_with fail
        refine (HZ.out _ HG0.out).mono ?_
        rintro e w2 ⟨rfl, g2⟩
        rw [HZZ.out]
        have hl2 := (HB0.out.grew g2).lt
        have x0 := (HB0.out.grew g2).cell 0
        have x1 := (HB0.out.grew g2).cell 1
        have x2 := (HB0.out.grew g2).cell 2
        have x3 := (HB0.out.grew g2).cell 3
        have x4 := (HB0.out.grew g2).cell 4
        go_wp2_with fail
        refine (HVC.out _ (HG0.out.trans g2)).mono ?_
        rintro e w3 ⟨rfl, g3⟩
        rw [HVT.out]
        have hG := g2.trans g3
        clear g2 g3 x0 x1 x2 x3 x4 hl2 HZ HVC
        obtain ⟨id, unit, name, note, ext⟩ := l
        simp only at v1 v2 v3 v4 v5 v6 v7 v8
        obtain ⟨idn, rfl⟩ := Int.eq_ofNat_of_zero_le (show 0 ≤ id by omega)
        obtain ⟨un, rfl⟩ := Int.eq_ofNat_of_zero_le v3
        have HB := Lib.hid (show Blk (w.alloc (.cells #[.int .i64 (idn : Int), .int .i64 (un : Int), .string name, .string note, .slice A ext.length c] 24)) w.heap.size 24 #[.int .i64 (idn : Int), .int .i64 (un : Int), .string name, .string note, .slice A ext.length c] from HB0.out)
        have HL1 := Lib.hid (show LabAt w A c ⟨(idn : Int), (un : Int), name, note, ext⟩ from HL.out)
        have HBE := Lib.hid (show bodyE ⟨(idn : Int), (un : Int), name, note, ext⟩ = eB idn ++ (eB un ++ (eB name.size ++ (name ++ (eB note.size ++ (note ++ eB ext.length))))) from rfl)
        have HBS := Lib.hid (bodyE_size ⟨(idn : Int), (un : Int), name, note, ext⟩ v5 v6)
        have HRS := Lib.hid (fun k => runsE_size (ext.take k))
        clear HB0 HL HL0
        have s0 := eB_size idn
        have s1 := eB_size un
        have s2 := eB_size name.size
        have s3 := eB_size note.size
        have s4 := eB_size ext.length
        have hlb := (HB.out.grew hG).lt
        have x0 := (HB.out.grew hG).cell 0
        go_wp2_with fail
        refine (appendNumber_any ⟨#[]⟩ idn _ (by omega) (by decide)).mono ?_
        rintro e ws ⟨rfl, gs⟩
        replace hG := hG.trans gs
        obtain ⟨S1, hS1⟩ : ∃ S1 : ByteArray, S1 = ⟨#[]⟩ ++ ⟨(enc idn).toArray⟩ := ⟨_, rfl⟩
        rw [← hS1]
        have HS1 := Lib.hid (show S1 = eB idn from hS1.trans (by rw [empty_bytes]; rfl))
        have zS1 : S1.size ≤ 10 := by rw [HS1.out]; (try simp only [ByteArray.size_append]); omega
        clear gs hS1 hlb x0
        have hlb := (HB.out.grew hG).lt
        have x1 := (HB.out.grew hG).cell 1
        go_wp2_with fail
        refine (appendNumber_any S1 un _ (by omega) (by omega)).mono ?_
        rintro e ws ⟨rfl, gs⟩
        replace hG := hG.trans gs
        obtain ⟨S2, hS2⟩ : ∃ S2 : ByteArray, S2 = S1 ++ ⟨(enc un).toArray⟩ := ⟨_, rfl⟩
        rw [← hS2]
        have HS2 := Lib.hid (show S2 = S1 ++ eB un from hS2.trans (rfl))
        have zS2 : S2.size ≤ 20 := by rw [HS2.out]; (try simp only [ByteArray.size_append]); omega
        clear gs hS2 hlb x1
        have hlb := (HB.out.grew hG).lt
        have x2 := (HB.out.grew hG).cell 2
        go_wp2_with fail
        refine (appendText_any S2 name _ (by omega) (by omega)).mono ?_
        rintro e ws ⟨rfl, gs⟩
        replace hG := hG.trans gs
        obtain ⟨S3, hS3⟩ : ∃ S3 : ByteArray, S3 = S2 ++ ⟨(enc name.size).toArray⟩ ++ name := ⟨_, rfl⟩
        rw [← hS3]
        have HS3 := Lib.hid (show S3 = S2 ++ eB name.size ++ name from hS3.trans (rfl))
        have zS3 : S3.size ≤ 61 := by rw [HS3.out]; (try simp only [ByteArray.size_append]); omega
        clear gs hS3 hlb x2
        have hlb := (HB.out.grew hG).lt
        have x3 := (HB.out.grew hG).cell 3
        go_wp2_with fail
        refine (appendText_any S3 note _ (by omega) (by omega)).mono ?_
        rintro e ws ⟨rfl, gs⟩
        replace hG := hG.trans gs
        obtain ⟨S4, hS4⟩ : ∃ S4 : ByteArray, S4 = S3 ++ ⟨(enc note.size).toArray⟩ ++ note := ⟨_, rfl⟩
        rw [← hS4]
        have HS4 := Lib.hid (show S4 = S3 ++ eB note.size ++ note from hS4.trans (rfl))
        have zS4 : S4.size ≤ 471 := by rw [HS4.out]; (try simp only [ByteArray.size_append]); omega
        clear gs hS4 hlb x3
        have hlb := (HB.out.grew hG).lt
        have x4 := (HB.out.grew hG).cell 4
        go_wp2_with fail
        refine (appendNumber_any S4 ext.length _ (by omega) (by omega)).mono ?_
        rintro e ws ⟨rfl, gs⟩
        replace hG := hG.trans gs
        obtain ⟨S5, hS5⟩ : ∃ S5 : ByteArray, S5 = S4 ++ ⟨(enc ext.length).toArray⟩ := ⟨_, rfl⟩
        rw [← hS5]
        have HS5 := Lib.hid (show S5 = S4 ++ eB ext.length from hS5.trans (rfl))
        have zS5 : S5.size ≤ 481 := by rw [HS5.out]; (try simp only [ByteArray.size_append]); omega
        clear gs hS5 hlb x4
        have HS := Lib.hid (show S5 = bodyE ⟨(idn : Int), (un : Int), name, note, ext⟩ from by
          rw [HBE.out, HS5.out, HS4.out, HS3.out, HS2.out, HS1.out]; simp only [ByteArray.append_assoc])
        clear HS1 HS2 HS3 HS4 HS5 s0 s1 s2 s3 s4 zS1 zS2 zS3 zS4
        have hlb := (HB.out.grew hG).lt
        have x4 := (HB.out.grew hG).cell 4
        go_wp2_with fail
        obtain ⟨wl, hwl⟩ : ∃ wl, wl = ws := ⟨_, rfl⟩
        rw [← hwl] at hG ⊢
        clear hwl
        go_loopg [5, 46] ext.length (fun gk v i wr => ∃ k : Nat, k ≤ ext.length ∧ gk = ext.length - k ∧ i = .int .i64 k ∧ v = .string (S5 ++ runsE (ext.take k)) ∧ Grew (w.alloc (.cells #[.int .i64 (idn : Int), .int .i64 (un : Int), .string name, .string note, .slice A ext.length c] 24)) wr)
        case atStart => exact ⟨0, by omega, by omega, rfl, by rw [List.take_zero]; show _ = Value.string (S5 ++ ByteArray.empty); rw [ByteArray.append_empty], hG⟩
        case round =>
          obtain ⟨k, hk, hgk, rfl, rfl, hg⟩ := hrel
          have HGK := Lib.hid hgk
          have hrs := HRS.out k
          rw [List.length_take] at hrs
          obtain ⟨U, hU⟩ : ∃ U, S5 ++ runsE (ext.take k) = U := ⟨_, rfl⟩
          have hUs : U.size ≤ 801 := by rw [← hU, ByteArray.size_append]; omega
          rw [hU]
          have HU := Lib.hid hU
          clear hgk hrs hU
          by_cases hlt : k < ext.length
          · obtain ⟨b, off, f, n, rfl, hb, hv, hok, c0, c1⟩ := ((HL1.out.hold HG0.out).hold hg).runs.at_ hlt
            have hsm := HJB.out ext[k] (List.getElem_mem hlt)
            rw [hv] at hsm
            simp only at hsm
            obtain ⟨q0, q1, q2⟩ := hsm
            obtain ⟨fn, rfl⟩ := Int.eq_ofNat_of_zero_le q0
            obtain ⟨nn, rfl⟩ := Int.eq_ofNat_of_zero_le q1
            have HNX := Lib.hid (show S5 ++ runsE (ext.take (k + 1)) = U ++ eB fn ++ eB nn from by
              rw [List.take_succ_eq_append_getElem hlt, runsE_snoc, hv, ← ByteArray.append_assoc, HU.out]
              show U ++ (eB fn ++ eB nn) = _
              rw [ByteArray.append_assoc])
            have z0 := eB_size fn
            obtain ⟨wm, hwm⟩ : ∃ wm, wm = wr := ⟨_, rfl⟩
            subst hwm
            have HR := Lib.hid (Blk.new wm 58 #[.int .i64 (fn : Int), .int .i64 (nn : Int)] rfl)
            clear hv hok
            go_wp2_with fail
            refine wp_region_R [] (fun w' : World => w'.cell? ⟨wm.heap.size, 0, none⟩ = some (.int .i64 (fn : Int)) ∧ w'.cell? ⟨wm.heap.size, 1, none⟩ = some (.int .i64 (nn : Int))) (by kernel_rfl) ?_
            have hS := (show (fun w' : World => w'.cell? ⟨wm.heap.size, 0, none⟩ = some (.int .i64 (fn : Int)) ∧ w'.cell? ⟨wm.heap.size, 1, none⟩ = some (.int .i64 (nn : Int))) _ from ⟨HR.out.drew.cell 0, HR.out.drew.cell 1⟩)
            refine wpAnyR_takeQ (i := 0) (v := ?_) (some 50) rfl rfl (by kernel_rfl) (by kernel_rfl) (by kernel_rfl) (by kernel_rfl) (fun _ _ _ h => h) (Or.inl ⟨by rfl, ?_⟩) ?_
            rotate_left
            focus (intro wS hSw; (try dsimp only at hSw); go_simp; (try with_reducible rfl); (try (first | (rw [if_pos (by omega)]; (try go_simp); (try with_reducible rfl)) | (rw [if_neg (by omega)]; (try go_simp); (try with_reducible rfl)))))
            try simp only [Act.put, zA, zB, zC]
            refine wpAnyR_takeQ (i := 1) (v := ?_) (some 51) rfl rfl (by kernel_rfl) (by kernel_rfl) (by kernel_rfl) (by kernel_rfl) (fun _ _ _ h => h) (Or.inl ⟨by rfl, ?_⟩) ?_
            rotate_left
            focus (intro wS hSw; (try dsimp only at hSw); go_simp; (try with_reducible rfl); (try (first | (rw [if_pos (by omega)]; (try go_simp); (try with_reducible rfl)) | (rw [if_neg (by omega)]; (try go_simp); (try with_reducible rfl)))))
            try simp only [Act.put, zA, zB, zC]
            refine wpAnyR_take (i := 2) (v := ?_) [3, 4, 8, 9] (some 52) rfl rfl (by kernel_rfl) (by kernel_rfl) (by kernel_rfl) (by kernel_rfl) (by kernel_rfl) (by kernel_rfl) (by kernel_rfl) (fun _ _ _ h => h) (Or.inl ⟨by rfl, ?_⟩) hS ?_
            rotate_left
            focus (intro wS hSw; (try dsimp only at hSw); go_simp; (try with_reducible rfl); (try (first | (rw [if_pos (by omega)]; (try go_simp); (try with_reducible rfl)) | (rw [if_neg (by omega)]; (try go_simp); (try with_reducible rfl)))))
            try simp only [Act.put, zA, zB, zC]
            refine wpAnyR_take (i := 3) (v := ?_) [4, 8, 9] (some 53) rfl rfl (by kernel_rfl) (by kernel_rfl) (by kernel_rfl) (by kernel_rfl) (by kernel_rfl) (by kernel_rfl) (by kernel_rfl) (fun _ _ _ h => h) (Or.inl ⟨by rfl, ?_⟩) hS ?_
            rotate_left
            focus (intro wS hSw; (try dsimp only at hSw); go_simp; (try with_reducible rfl); (try (first | (rw [if_pos (by omega)]; (try go_simp); (try with_reducible rfl)) | (rw [if_neg (by omega)]; (try go_simp); (try with_reducible rfl)))))
            try simp only [Act.put, zA, zB, zC]
            refine wpAnyR_takeQ (i := 5) (v := ?_) (some 55) rfl rfl (by kernel_rfl) (by kernel_rfl) (by kernel_rfl) (by kernel_rfl) (fun _ _ _ h => h) (Or.inl ⟨by rfl, ?_⟩) ?_
            rotate_left
            focus (intro wS hSw; (try dsimp only at hSw); go_simp; (try with_reducible rfl); (try (first | (rw [if_pos (by omega)]; (try go_simp); (try with_reducible rfl)) | (rw [if_neg (by omega)]; (try go_simp); (try with_reducible rfl)))))
            try simp only [Act.put, zA, zB, zC]
            refine wpAnyR_take (i := 6) (v := ?_) [7, 8, 9] (some 56) rfl rfl (by kernel_rfl) (by kernel_rfl) (by kernel_rfl) (by kernel_rfl) (by kernel_rfl) (by kernel_rfl) (by kernel_rfl) (fun _ _ _ h => h) (Or.inl ⟨by rfl, ?_⟩) hS ?_
            rotate_left
            focus (intro wS hSw; (try dsimp only at hSw); go_simp; (try with_reducible rfl); (try (first | (rw [if_pos (by omega)]; (try go_simp); (try with_reducible rfl)) | (rw [if_neg (by omega)]; (try go_simp); (try with_reducible rfl)))))
            try simp only [Act.put, zA, zB, zC]
            refine wpAnyR_take (i := 7) (v := ?_) [8, 9] (some 57) rfl rfl (by kernel_rfl) (by kernel_rfl) (by kernel_rfl) (by kernel_rfl) (by kernel_rfl) (by kernel_rfl) (by kernel_rfl) (fun _ _ _ h => h) (Or.inl ⟨by rfl, ?_⟩) hS ?_
            rotate_left
            focus (intro wS hSw; (try dsimp only at hSw); go_simp; (try with_reducible rfl); (try (first | (rw [if_pos (by omega)]; (try go_simp); (try with_reducible rfl)) | (rw [if_neg (by omega)]; (try go_simp); (try with_reducible rfl)))))
            try simp only [Act.put, zA, zB, zC]
            refine wpAnyR_n1 (i := 4) rfl (by kernel_rfl) ?_
            intro K' hK
            rw [if_pos (by rfl)]
            simp only [List.getElem_toArray, List.getElem_cons_succ, List.getElem_cons_zero]
            go_wp2_with fail
            refine (appendNumber_any U fn _ (by omega) (by omega)).mono ?_
            rintro e w4 ⟨rfl, g4⟩
            obtain ⟨V, hV⟩ : ∃ V : ByteArray, V = U ++ ⟨(enc fn).toArray⟩ := ⟨_, rfl⟩
            rw [← hV]
            have HV := Lib.hid (show V = U ++ eB fn from hV)
            have zV : V.size ≤ 811 := by rw [HV.out, ByteArray.size_append]; omega
            clear hV
            go_wp2_with fail
            refine hK.out _ _ (.inr (fun _ => ⟨(HR.out.drew.grew g4).cell 0, (HR.out.drew.grew g4).cell 1⟩)) ?_
            clear hK hS
            refine wpAnyR_n1 (i := 8) rfl (by kernel_rfl) ?_
            intro K' hK
            rw [if_pos (by rfl)]
            simp only [List.getElem_toArray, List.getElem_cons_succ, List.getElem_cons_zero]
            go_wp2_with fail
            refine (appendNumber_any V nn _ (by omega) (by omega)).mono ?_
            rintro e w5 ⟨rfl, g5⟩
            go_wp2_with fail
            refine hK.out _ _ (.inr (fun _ => ⟨((HR.out.drew.grew g4).grew g5).cell 0, ((HR.out.drew.grew g4).grew g5).cell 1⟩)) ?_
            clear hK
            have hgn := ((hg.alloc (.cells #[.int .i64 (fn : Int), .int .i64 (nn : Int)] 58)).drew.trans g4).trans g5
            refine wpAnyR_takeQ (i := 9) (v := ?_) (some 5) rfl rfl (by kernel_rfl) (by kernel_rfl) (by kernel_rfl) (by kernel_rfl) (fun _ _ _ h => h) (Or.inl ⟨by rfl, ?_⟩) ?_
            rotate_left
            focus (intro wS hSw; (try dsimp only at hSw); go_simp; (try with_reducible rfl); (try (first | (rw [if_pos (by omega)]; (try go_simp); (try with_reducible rfl)) | (rw [if_neg (by omega)]; (try go_simp); (try with_reducible rfl)))))
            try simp only [Act.put, zA, zB, zC]
            refine wpAnyR_done (by kernel_rfl) ?_ _
            go_wp2_with fail
            go_roundg (ext.length - (k + 1))
            case measure => rw [HGK.out]; omega
            case rel => exact ⟨k + 1, by omega, by omega, by go_num, by rw [HNX.out, ← HV.out]; rfl, hgn⟩
          · obtain rfl : k = ext.length := by omega
            have HEE := Lib.hid (show encS ⟨(idn : Int), (un : Int), name, note, ext⟩ t = padS 1024 U from by
              rw [HE.out]
              show padS 1024 (bodyE _ ++ runsE ext) = _
              rw [← HS.out, ← HU.out, List.take_length])
            go_wp2_with fail
            refine (fill_any U _ (by omega)).mono ?_
            rintro e w6 ⟨rfl, g6⟩
            go_wp2_with fail
            go_ret
            exact ⟨ret_str (by rw [HEE.out]), (HG0.out.trans hg).trans g6⟩
end Go.Proofs.Ytnlaogneceanoaa
namespace Go.Proofs.Ytnlaogneceanoaa
set_option linter.unusedVariables false
set_option linter.unusedSimpArgs false
set_option linter.unusedSectionVars false
open Go.RowKit
theorem extract_app (a b : List UInt8) : (⟨(a ++ b).toArray⟩ : ByteArray).extract a.length (⟨(a ++ b).toArray⟩ : ByteArray).size = ⟨b.toArray⟩ := by
  rw [Lib.extract_eq]
  congr 2
  simp only []
  rw [List.drop_left]
  apply List.take_of_length_le
  show b.length ≤ (a ++ b).toArray.size - a.length
  simp
theorem extract_pre (a b : List UInt8) : (⟨(a ++ b).toArray⟩ : ByteArray).extract 0 a.length = ⟨a.toArray⟩ := by
  rw [Lib.extract_eq]
  congr 2
  simp
theorem RNum_app (n : Nat) (rest : List UInt8) (h : n < 18446744073709551616) : RNum ⟨(enc n ++ rest).toArray⟩ 0 = (n, ⟨rest.toArray⟩, 0) := by
  have hd := dec_enc n rest h
  have hp := enc_pos n
  have hd' : dec (⟨(enc n ++ rest).toArray⟩ : ByteArray).data.toList = (n, ((enc n).length - 1) + 1) := by rw [show (enc n).length - 1 + 1 = (enc n).length from by omega]; exact hd
  rw [RNum_some _ n _ hd', show (enc n).length - 1 + 1 = (enc n).length from by omega, extract_app]
theorem RCnt_app (n : Nat) (rest : List UInt8) (most : Int) (h : n < 18446744073709551616) (hm : (n : Int) ≤ most) : RCnt ⟨(enc n ++ rest).toArray⟩ 0 most = (n, ⟨rest.toArray⟩, 0) := by
  rw [RCnt, RNum_app n rest h, if_neg (by simp), if_neg (by simp; omega)]
theorem RTxt_app (t rest : List UInt8) (most : Int) (h : t.length < 18446744073709551616) (hm : (t.length : Int) ≤ most) : RTxt ⟨(enc t.length ++ (t ++ rest)).toArray⟩ 0 most = (⟨t.toArray⟩, ⟨rest.toArray⟩, 0) := by
  rw [RTxt, RCnt_app _ _ _ h hm, if_neg (by simp)]
  have hsz : (⟨(t ++ rest).toArray⟩ : ByteArray).size = t.length + rest.length := by show (t ++ rest).toArray.size = _; simp
  rw [if_neg (by simp only [hsz]; omega)]
  simp only []
  rw [extract_pre, extract_app]
theorem data_eq (s : ByteArray) : (⟨s.data.toList.toArray⟩ : ByteArray) = s := Lib.mk_data s
def Whole (s again left : ByteArray) (err : Int) : Prop := (err ≠ 0 ∧ left = ⟨#[]⟩) ∨ (err = 0 ∧ again ++ left = s)
def runsL : List (Int × Int) → List UInt8
  | [] => []
  | r :: l => enc r.1.toNat ++ (enc r.2.toNat ++ runsL l)
theorem runsE_data (l : List (Int × Int)) : (runsE l).data.toList = runsL l := by
  induction l with
  | nil => rfl
  | cons r l ih =>
    show (rB r ++ runsE l).data.toList = _
    unfold rB eB
    simp only [ByteArray.data_append, Array.toList_append, ih]
    simp [runsL]
def allL (l : Lab) (z : Nat) : List UInt8 := enc l.id.toNat ++ (enc l.unit.toNat ++ (enc l.name.size ++ (l.name.data.toList ++ (enc l.note.size ++ (l.note.data.toList ++ (enc l.ext.length ++ (runsL l.ext ++ List.replicate z 0)))))))
theorem pad_data (l : Lab) : (padS 1024 (bodyE l ++ runsE l.ext)).data.toList = allL l (1024 - (bodyE l ++ runsE l.ext).size) := by
  unfold padS bodyE allL zeros eB
  simp only [ByteArray.data_append, Array.toList_append, runsE_data]
  simp
theorem bytes_eq {a b : ByteArray} (h : a.data.toList = b.data.toList) : a = b := by
  apply ByteArray.ext
  exact Array.toList_inj.1 h
theorem encS_valid (l : Lab) (t : Int) (h : validL l t = true) : encS l t = padS 1024 (bodyE l ++ runsE l.ext) := by
  have hz : eqL l labZ = false := by
    obtain ⟨⟨v1, _⟩, _⟩ := valid_facts l t h
    unfold eqL labZ
    simp only
    rw [show (l.id == 0) = false from beq_eq_false_iff_ne.2 (by omega)]
    rfl
  unfold encS
  rw [if_neg (by rw [hz]; simp), if_pos h]
theorem eqL_iff (l k : Lab) : eqL l k = true ↔ l = k := by
  obtain ⟨i1, u1, n1, t1, e1⟩ := l
  obtain ⟨i2, u2, n2, t2, e2⟩ := k
  unfold eqL
  simp only [Bool.and_eq_true, beq_iff_eq, decide_eq_true_eq, Lab.mk.injEq]
  constructor
  · rintro ⟨h1, h2, h3, h4, h5⟩
    exact ⟨h1, h2, bytes_eq (by simpa [ByteArray.toList_eq] using h3), bytes_eq (by simpa [ByteArray.toList_eq] using h4), h5⟩
  · rintro ⟨rfl, rfl, rfl, rfl, rfl⟩
    exact ⟨rfl, rfl, rfl, rfl, rfl⟩
end Go.Proofs.Ytnlaogneceanoaa
namespace Go.Proofs.Ytnlaogneceanoaa
set_option linter.unusedVariables false
set_option linter.unusedSimpArgs false
set_option linter.unusedSectionVars false
open Go.RowKit
attribute [local go_sem ↓] Go.wp_at_zero Go.wp_at_succ
def chrC (n : Nat) : Bool := decide (65 ≤ n ∧ n ≤ 90) || decide (48 ≤ n ∧ n ≤ 57)
def NameP (s : ByteArray) : Prop := 1 ≤ s.size ∧ s.size ≤ 8 ∧ (∀ j (hj : j < s.size), chrC s[j].toNat = true) ∧ ∀ _h : 0 < s.size, 65 ≤ s[0].toNat
instance (s : ByteArray) : Decidable (NameP s) := by unfold NameP; exact inferInstance
def nameOk (s : ByteArray) : Bool := decide (NameP s)
theorem nameOk_no {s : ByteArray} (h : ¬ NameP s) : nameOk s = false := decide_eq_false h
theorem nameOk_yes {s : ByteArray} (h : NameP s) : nameOk s = true := decide_eq_true h
theorem chrC_cases (n : Nat) : (chrC n = true ∧ 65 ≤ n ∧ n ≤ 90) ∨ (chrC n = true ∧ 48 ≤ n ∧ n ≤ 57) ∨ (chrC n = false ∧ n < 48) ∨ (chrC n = false ∧ 57 < n ∧ n < 65) ∨ (chrC n = false ∧ 90 < n) := by
  unfold chrC
  by_cases h1 : 65 ≤ n ∧ n ≤ 90
  · exact .inl ⟨by simp [h1], h1⟩
  · by_cases h2 : 48 ≤ n ∧ n ≤ 57
    · exact .inr (.inl ⟨by simp [h2], h2⟩)
    · have e : (decide (65 ≤ n ∧ n ≤ 90) || decide (48 ≤ n ∧ n ≤ 57)) = false := by rw [decide_eq_false h1, decide_eq_false h2]; rfl
      by_cases h3 : n < 48
      · exact .inr (.inr (.inl ⟨e, h3⟩))
      · by_cases h4 : n < 65
        · exact .inr (.inr (.inr (.inl ⟨e, by omega, h4⟩)))
        · exact .inr (.inr (.inr (.inr ⟨e, by omega⟩)))
set_option maxRecDepth 100000 in
set_option maxHeartbeats 1000000 in
theorem validName_any (s : ByteArray) (w : World) (hs : s.size ≤ 9223372036854775807) :
    Calls Try.prog 40 #[.string s] w fun e w' => e = .returned (.bool (nameOk s)) ∧ w = w' := by
  by_cases h0 : s.size < 1
  · have HE := Lib.hid (nameOk_no (s := s) (fun h => by have := h.1; omega))
    go_enter Try.func40, Try.ntmps40
    go_wp2_with fail
    go_ret
    exact ⟨ret_bool (by rw [HE.out]), rfl⟩
  by_cases h8 : s.size > 8
  · have HE := Lib.hid (nameOk_no (s := s) (fun h => by have := h.2.1; omega))
    go_enter Try.func40, Try.ntmps40
    go_wp2_with fail
    go_ret
    exact ⟨ret_bool (by rw [HE.out]), rfl⟩
  have hs1 : 0 < s.size := by omega
  by_cases hc : s[0].toNat < 65
  · have HE := Lib.hid (nameOk_no (s := s) (fun h => by have := h.2.2.2 hs1; omega))
    go_enter Try.func40, Try.ntmps40
    go_wp2_with fail
    go_ret
    exact ⟨ret_bool (by rw [HE.out]), rfl⟩
  go_enter Try.func40, Try.ntmps40
  go_wp2_with fail
  have HC := Lib.hid hc
  clear hc
  go_loopg [20] s.size (fun gk i wr => w = wr ∧ ∃ k : Nat, k ≤ s.size ∧ gk = s.size - k ∧ i = .int .i64 k ∧ ∀ j (hj : j < s.size), j < k → chrC s[j].toNat = true)
  case atStart => exact ⟨rfl, 0, by omega, by omega, rfl, fun j hj h => by omega⟩
  case round =>
    obtain ⟨rfl, k, hk, hgk, rfl, hall⟩ := hrel
    have HGK := Lib.hid hgk
    have HA := Lib.hid hall
    clear hgk hall
    by_cases hlt : k < s.size
    · have HN := Lib.hid (show chrC s[k].toNat = true → ∀ j (hj : j < s.size), j < k + 1 → chrC s[j].toNat = true from fun hz j hj hjk => by
          by_cases hjk' : j = k
          · subst hjk'; exact hz
          · exact HA.out j hj (by omega))
      have HF := Lib.hid (show chrC s[k].toNat = false → nameOk s = false from fun hz => nameOk_no (fun h => by have := h.2.2.1 k hlt; rw [hz] at this; cases this))
      rcases chrC_cases s[k].toNat with ⟨hz, a1, a2⟩ | ⟨hz, a1, a2⟩ | ⟨hz, a1⟩ | ⟨hz, a1, a2⟩ | ⟨hz, a1⟩
      · replace HN := Lib.hid (HN.out hz)
        clear hz HF
        go_wp2_with fail
        go_roundg (s.size - (k + 1))
        case measure => rw [HGK.out]; omega
        case rel => exact ⟨rfl, k + 1, by omega, by omega, by go_num, HN.out⟩
      · replace HN := Lib.hid (HN.out hz)
        clear hz HF
        go_wp2_with fail
        go_roundg (s.size - (k + 1))
        case measure => rw [HGK.out]; omega
        case rel => exact ⟨rfl, k + 1, by omega, by omega, by go_num, HN.out⟩
      · replace HF := Lib.hid (HF.out hz)
        clear hz HN
        go_wp2_with fail
        go_ret
        exact ⟨ret_bool (by rw [HF.out]), rfl⟩
      · replace HF := Lib.hid (HF.out hz)
        clear hz HN
        go_wp2_with fail
        go_ret
        exact ⟨ret_bool (by rw [HF.out]), rfl⟩
      · replace HF := Lib.hid (HF.out hz)
        clear hz HN
        go_wp2_with fail
        go_ret
        exact ⟨ret_bool (by rw [HF.out]), rfl⟩
    · have HE := Lib.hid (show nameOk s = true from nameOk_yes ⟨by omega, by omega, fun j hj => HA.out j hj (by omega), fun _ => by have := HC.out; omega⟩)
      go_wp2_with fail
      go_ret
      exact ⟨ret_bool (by rw [HE.out]), rfl⟩
end Go.Proofs.Ytnlaogneceanoaa
namespace Go.Proofs.Ytnlaogneceanoaa
set_option linter.unusedVariables false
set_option linter.unusedSimpArgs false
set_option linter.unusedSectionVars false
open Go.RowKit
attribute [local go_sem ↓] Go.wp_at_zero Go.wp_at_succ
def headS (s : ByteArray) (t : Int) : ByteArray := if nameOk s = true ∧ okT t = true then padS 1024 (eB s.size ++ s ++ eB t.toNat) else ⟨#[]⟩
set_option maxRecDepth 100000 in
set_option maxHeartbeats 2000000 in
theorem encHead_any (s : ByteArray) (t : Int) (w : World) (hs : s.size ≤ 9223372036854775807) :
    Calls Try.prog 57 #[.string s, .int .i64 t] w fun e w' => e = .returned (.string (headS s t)) ∧ Grew w w' := by
  cases hn : nameOk s with
  | false =>
    have HE := Lib.hid (show headS s t = ⟨#[]⟩ from by unfold headS; rw [if_neg (by rw [hn]; simp)])
    have HN := Lib.hid hn
    clear hn
    go_enter Try.func57, Try.ntmps57
    go_wp2_with fail
    refine (validName_any s _ hs).mono ?_
    rintro e w1 ⟨rfl, rfl⟩
    rw [HN.out]
    go_wp2_with fail
    go_ret
    exact ⟨ret_str (by rw [HE.out]), by (repeat' first | (with_reducible exact Grew.refl _) | (with_reducible assumption) | (with_reducible refine Grew.alloc ?_ _) | (with_reducible refine Grew.drew ?_) | (with_reducible refine Grew.drewN ?_ _) | (with_reducible refine Grew.setRow ?_ (by first | (simp; done) | (simp; omega) | omega) _) | (with_reducible refine Grew.setCell ?_ (by first | (simp; done) | (simp; omega) | omega) _) | ((with_reducible apply Grew.trans); rotate_left; (with_reducible assumption)) | ((with_reducible apply Grew.turn); rotate_left; (with_reducible assumption); (focus (intro i hi; first | omega | (simp at hi; omega)))) | fail)⟩
  | true =>
    have hp : NameP s := of_decide_eq_true hn
    have hs8 : s.size ≤ 8 := hp.2.1
    clear hp
    have HN := Lib.hid hn
    cases ho : okT t with
    | false =>
      have HE := Lib.hid (show headS s t = ⟨#[]⟩ from by unfold headS; rw [if_neg (by rw [ho]; simp)])
      have HO := Lib.hid ho
      clear ho hn
      go_enter Try.func57, Try.ntmps57
      go_wp2_with fail
      refine (validName_any s _ hs).mono ?_
      rintro e w1 ⟨rfl, rfl⟩
      rw [HN.out]
      go_wp2_with fail
      refine (tracksOK_any _ _).mono ?_
      rintro e w1 ⟨rfl, rfl⟩
      rw [HO.out]
      go_wp2_with fail
      go_ret
      exact ⟨ret_str (by rw [HE.out]), by (repeat' first | (with_reducible exact Grew.refl _) | (with_reducible assumption) | (with_reducible refine Grew.alloc ?_ _) | (with_reducible refine Grew.drew ?_) | (with_reducible refine Grew.drewN ?_ _) | (with_reducible refine Grew.setRow ?_ (by first | (simp; done) | (simp; omega) | omega) _) | (with_reducible refine Grew.setCell ?_ (by first | (simp; done) | (simp; omega) | omega) _) | ((with_reducible apply Grew.trans); rotate_left; (with_reducible assumption)) | ((with_reducible apply Grew.turn); rotate_left; (with_reducible assumption); (focus (intro i hi; first | omega | (simp at hi; omega)))) | fail)⟩
    | true =>
      have hb := okT_true ho
      obtain ⟨n, rfl⟩ : ∃ n : Nat, t = (n : Int) := ⟨t.toNat, by omega⟩
      have HE := Lib.hid (show headS s (n : Int) = padS 1024 (eB s.size ++ s ++ eB n) from by unfold headS; rw [if_pos ⟨hn, ho⟩]; rfl)
      have HO := Lib.hid ho
      clear ho hn
      have hn1 : n ≤ 128 := by omega
      clear hb
      have z1 := eB_size s.size
      have z2 := eB_size n
      go_enter Try.func57, Try.ntmps57
      go_wp2_with fail
      refine (validName_any s _ hs).mono ?_
      rintro e w1 ⟨rfl, rfl⟩
      rw [HN.out]
      go_wp2_with fail
      refine (tracksOK_any _ _).mono ?_
      rintro e w1 ⟨rfl, rfl⟩
      rw [HO.out]
      go_wp2_with fail
      refine (appendText_any ⟨#[]⟩ s _ (by decide) (by omega)).mono ?_
      rintro e ws ⟨rfl, g1⟩
      obtain ⟨S1, hS1⟩ : ∃ S1 : ByteArray, S1 = ⟨#[]⟩ ++ ⟨(enc s.size).toArray⟩ ++ s := ⟨_, rfl⟩
      rw [← hS1]
      have HS1 := Lib.hid (show S1 = eB s.size ++ s from hS1.trans (by rw [empty_bytes]; rfl))
      have zS1 : S1.size ≤ 18 := by rw [HS1.out]; (try simp only [ByteArray.size_append]); omega
      clear hS1
      go_wp2_with fail
      refine (appendNumber_any S1 n _ (by omega) (by omega)).mono ?_
      rintro e ws2 ⟨rfl, g2⟩
      obtain ⟨S2, hS2⟩ : ∃ S2 : ByteArray, S2 = S1 ++ ⟨(enc n).toArray⟩ := ⟨_, rfl⟩
      rw [← hS2]
      have HS2 := Lib.hid (show S2 = S1 ++ eB n from hS2.trans rfl)
      have zS2 : S2.size ≤ 28 := by rw [HS2.out]; (try simp only [ByteArray.size_append]); omega
      clear hS2
      go_wp2_with fail
      refine (fill_any S2 _ (by omega)).mono ?_
      rintro e ws3 ⟨rfl, g3⟩
      go_wp2_with fail
      go_ret
      exact ⟨ret_str (by rw [HE.out, HS2.out, HS1.out]), (g1.trans g2).trans g3⟩
end Go.Proofs.Ytnlaogneceanoaa
namespace Go.Proofs.Ytnlaogneceanoaa
set_option linter.unusedVariables false
set_option linter.unusedSimpArgs false
set_option linter.unusedSectionVars false
open Go.ChangeShapes Go.WideShapes Go.ChangeAt Go.RowKit Go.Deep
theorem wf_i64 {n : Int} (h : (Lit.int .i64 n).wf = true) : -9223372036854775808 ≤ n ∧ n ≤ 9223372036854775807 := by
  simp [Lit.wf, IntKind.min, IntKind.max, IntKind.signed, IntKind.bits] at h; omega
end Go.Proofs.Ytnlaogneceanoaa
namespace Go.Proofs.Ytnlaogneceanoaa
set_option linter.unusedVariables false
set_option linter.unusedSimpArgs false
set_option linter.unusedSectionVars false
open Go.ChangeShapes Go.WideShapes Go.ChangeAt Go.RowKit Go.Deep
section
variable {H : Type} {enc : TypeId × Value → H} {P : Program} {w : World}
theorem open_listF {α : Type} [Inhabited α] {t e : Nat} {sz fuel : Nat} {v : Value} {x0 : DataW H × List MemPlace} (ht : P.underlying t = some (.slice e)) (hsz : P.cellsOf e = sz) (hpos : 0 < sz) (f : α → List Value) (Pr : α → Prop)
    (hel : ∀ n cs y, cs.length = sz → DataW.trod enc P w 0 (fun _ => true) true n e cs = some y → ∃ a, Pr a ∧ cs = f a)
    (hf : DataW.trod enc P w 0 (fun _ => true) true fuel t [v] = some x0) :
    ∃ A c, ∃ l : List α, v = .slice A l.length c ∧ l.length ≤ c ∧ c ≤ 9223372036854775807 ∧ (∀ a ∈ l, Pr a) ∧ ListAt w w.heap.size sz A (l.map f) := by
  obtain ⟨A, n, c, rfl⟩ : ∃ A n c, v = .slice A n c := by
    rcases open_slice ht hf with ⟨h0, _⟩ | ⟨a, len, cap, m, n', D, Pl, hcs, _⟩
    · exact ⟨none, 0, 0, by injection h0⟩
    · exact ⟨some a, len, cap, by injection hcs⟩
  rcases open_slice ht hf with ⟨h0, _⟩ | ⟨a, len, cap, m, n', D, Pl, hcs, hb, hl, hm, hmm, hx, hi⟩
  · simp only [List.cons.injEq, and_true] at h0
    injection h0 with h1 h2 h3
    subst h1; subst h2; subst h3
    exact ⟨none, 0, [], rfl, by simp, by simp, by simp, fun h => absurd h (by simp)⟩
  · simp only [List.cons.injEq, and_true] at hcs
    injection hcs with h1 h2 h3
    subst h1; subst h2; subst h3
    rw [if_pos rfl] at hmm
    have hlm : n ≤ m := by omega
    have each : ∀ i, i < n → ∃ x : α, Pr x ∧ ∃ cs, cs = f x ∧ cs.length = sz ∧ w.cells? 0 (a.add (i * sz)) sz = some cs := fun i hin => by
      obtain ⟨cs', hc, ht'⟩ := hi i (by omega)
      rw [hsz] at hc
      have hlen := (World.cells?_some hc).2.1
      obtain ⟨x, hp, hcs⟩ := hel n' cs' _ hlen ht'
      exact ⟨x, hp, cs', hcs, hlen, hc⟩
    obtain ⟨g, hg⟩ := choose_lt each
    refine ⟨some a, c, (List.range n).map g, by simp, by simpa using hl, by unfold maxLen at hm; simpa using hm, ?_, fun h0 => ?_⟩
    · intro x hx
      rw [List.mem_map] at hx
      obtain ⟨i, hi', rfl⟩ := hx
      exact (hg i (List.mem_range.1 hi')).1
    · have hn : 0 < n := by simpa using h0
      obtain ⟨_, cs0, hcs0, hlen0, hc0⟩ := hg 0 hn
      have h1 := (World.cells?_some hc0).2.2 0 hpos
      rw [Nat.zero_mul] at h1
      have hv0 : cs0[0]? = some cs0[0] := List.getElem?_eq_getElem (by omega)
      have ha : (a.add 0).add 0 = a := by simp [Addr.add]
      rw [ha, hv0] at h1
      obtain ⟨hlt, hsp⟩ := cell_lt h1
      obtain ⟨b, off, sp⟩ := a
      simp only at hsp hlt
      subst hsp
      refine ⟨b, off, rfl, hlt, fun j cs hj i v hiv => ?_⟩
      have hjn : j < n := by
        rcases Nat.lt_or_ge j n with h | h
        · exact h
        · rw [List.getElem?_eq_none (by simpa using h)] at hj; cases hj
      obtain ⟨_, cs1, hcs1, hlen1, hc1⟩ := hg j hjn
      have hcs : cs = cs1 := by
        simp [List.getElem?_map, List.getElem?_range, hjn] at hj
        rw [← hj, hcs1]
      subst hcs
      have hil : i < sz := by
        rcases Nat.lt_or_ge i cs.length with h | h
        · omega
        · rw [List.getElem?_eq_none h] at hiv; cases hiv
      have h2 := (World.cells?_some hc1).2.2 i hil
      rw [add_plain, add_plain] at h2
      rw [h2, hiv]
end
section
variable {H : Type} {enc : TypeId × Value → H} {w : World}
theorem open_runsF {fuel : Nat} {v : Value} {x0 : DataW H × List MemPlace} (hf : DataW.trod enc Try.prog w 0 (fun _ => true) true fuel 22 [v] = some x0) :
    ∃ A c, ∃ l : List (Int × Int), v = .slice A l.length c ∧ l.length ≤ c ∧ c ≤ 9223372036854775807 ∧ RunsAt w w.heap.size A l := by
  obtain ⟨A, c, l, rfl, h1, h2, h3, h4⟩ := open_listF (α := Int × Int) (sz := 2) Try.underlying22 (by kernel_rfl) (by omega) runC okRun (fun n cs y hlen h => by
      have hf := struct_fields Try.underlying58 (by kernel_rfl) h
      obtain ⟨v0, _, _, e0, f0⟩ := hf 0 _ rfl (by omega)
      obtain ⟨v1, _, _, e1, f1⟩ := hf 1 _ rfl (by omega)
      obtain ⟨n0, hn0, _, w0⟩ := DataW.trod_int Try.underlying3 f0
      obtain ⟨n1, hn1, _, w1⟩ := DataW.trod_int Try.underlying3 f1
      injection hn0 with hn0 _
      injection hn1 with hn1 _
      subst hn0; subst hn1
      have b0 := wf_i64 w0
      have b1 := wf_i64 w1
      refine ⟨(n0, n1), ⟨b0.1, b0.2, b1.1, b1.2⟩, ?_⟩
      match cs, hlen with
      | [x0, x1], _ =>
        simp at e0 e1
        rw [e0, e1]
        rfl) hf
  exact ⟨A, c, l, rfl, h1, h2, h3, h4⟩
end
end Go.Proofs.Ytnlaogneceanoaa
namespace Go.Proofs.Ytnlaogneceanoaa
set_option linter.unusedVariables false
set_option linter.unusedSimpArgs false
set_option linter.unusedSectionVars false
open Go.ChangeShapes Go.WideShapes Go.ChangeAt Go.RowKit
section
variable {H : Type} {enc : TypeId × Value → H} {P : Program}
theorem trodAll_stays (hl : laidOutB P = true) {W W' : World} {sp' : Nat → Bool} : ∀ {ts : List TypeId} {vs : List Value} {ds : List (DataW H)} {ps : List MemPlace},
    ts.all (fun t => P.readableRec t && decide (t < P.types.size)) = true →
    DataW.TrodAll enc P W 0 (fun _ => true) true ts vs ds ps → (∀ p ∈ ps, W.sameAt W' p) → (∀ p ∈ ps, sp' p.block = true) → DataW.TrodAll enc P W' 0 sp' true ts vs ds ps := by
  intro ts
  induction ts with
  | nil =>
    intro vs ds ps _ h _ _
    obtain ⟨rfl, rfl, rfl⟩ := trodAll_nil h
    exact rfl
  | cons t ts ih =>
    intro vs ds ps hts h hsame hs
    obtain ⟨v, vs', d, ds', p, q, rfl, rfl, rfl, h1, h2⟩ := trodAll_cons h
    rw [List.all_cons, Bool.and_eq_true, Bool.and_eq_true] at hts
    obtain ⟨⟨ht1, ht2⟩, ht3⟩ := hts
    exact trodAll_cons_mk (WideElems.Trod_stays hl ht1 (by simpa using ht2) h1 (fun x hx => hsame x (List.mem_append_left _ hx)) (fun x hx => hs x (List.mem_append_left _ hx)))
      (ih ht3 h2 (fun x hx => hsame x (List.mem_append_right _ hx)) (fun x hx => hs x (List.mem_append_right _ hx)))
theorem law_post {f : Func} {s : ChangeSpec} {apart fresh handsOn : Bool} {W W' : World} {args : Array Value} {ds gs : List (DataW H)} {before : List MemPlace} {tb : TypeId}
    (hl : laidOutB P = true) (hread : f.params.toList.all (fun t => P.readableRec t && decide (t < P.types.size)) = true) (hrt : f.resultTypes = #[tb]) (htb : P.underlying tb = some .bool) (hvars : s.vars = [])
    (hW : DataW.Whole enc P f.params.toList s.vars apart W args.toList ds gs before) (hfn : s.fn H (ds ++ gs) = { results := [.lit (.bool true)], args := ds }) (hg : Grew W W') :
    s.post enc P f apart fresh handsOn false W args (.bool true) W' := by
  have hlt : ∀ p ∈ before, p.block < W.heap.size := fun p hp => hW.lt p hp
  have hW0 := hW
  obtain ⟨p, q, hA, hV, rfl, hfz, hnd⟩ := hW
  rw [hvars] at hV
  obtain ⟨rfl, rfl⟩ := trodVars_none hV
  rw [List.append_nil] at hlt hW0
  have hA' := trodAll_stays hl (W' := W') (sp' := fun b => decide (b < W.heap.size)) hread hA (fun x hx => hg.same (hlt x hx)) (fun x hx => by simpa using hlt x hx)
  refine ⟨ds, [], p, [], p, [], hW0, ?_, ?_, ?_, ?_, fun h => by cases h⟩
  · rw [hfn, hrt]
    show DataW.TrodAll enc P W' _ (fun _ => false) handsOn [tb] [.bool true] [.lit (.bool true)] []
    exact trodAll_mk1 (shut_bool htb true)
  · rw [hfn]
    exact hA'
  · rw [hfn, hvars]
    exact rfl
  · exact hg.frame _
end
end Go.Proofs.Ytnlaogneceanoaa
namespace Go.Proofs.Ytnlaogneceanoaa
set_option linter.unusedVariables false
set_option linter.unusedSimpArgs false
set_option linter.unusedSectionVars false
open Go.RowKit
theorem padS_size (n : Nat) (s : ByteArray) (h : s.size ≤ n) : (padS n s).size = n := by
  unfold padS
  rw [ByteArray.size_append, zeros_size]
  omega
end Go.Proofs.Ytnlaogneceanoaa
namespace Go.Proofs.Ytnlaogneceanoaa
set_option linter.unusedVariables false
set_option linter.unusedSimpArgs false
set_option linter.unusedSectionVars false
open Go.RowKit
attribute [local go_sem ↓] Go.wp_at_zero Go.wp_at_succ
/-- The runs that are read, one behind the other. -/
def rdK (m : Int) (s : ByteArray) (e : Int) : Nat → List (Int × Int) × ByteArray × Int
  | 0 => ([], s, e)
  | k + 1 => ((rdK m s e k).1 ++ [(((RCnt (rdK m s e k).2.1 (rdK m s e k).2.2 m).1 : Int), ((RCnt (RCnt (rdK m s e k).2.1 (rdK m s e k).2.2 m).2.1 (RCnt (rdK m s e k).2.1 (rdK m s e k).2.2 m).2.2 128).1 : Int))],
      (RCnt (RCnt (rdK m s e k).2.1 (rdK m s e k).2.2 m).2.1 (RCnt (rdK m s e k).2.1 (rdK m s e k).2.2 m).2.2 128).2.1, (RCnt (RCnt (rdK m s e k).2.1 (rdK m s e k).2.2 m).2.1 (RCnt (rdK m s e k).2.1 (rdK m s e k).2.2 m).2.2 128).2.2)
def rI (s : ByteArray) := RCnt s 0 1099511627776
def rU (s : ByteArray) := RCnt (rI s).2.1 (rI s).2.2 1099511627776
def rN (s : ByteArray) := RTxt (rU s).2.1 (rU s).2.2 31
def rT (s : ByteArray) := RTxt (rN s).2.1 (rN s).2.2 400
def rC (s : ByteArray) := RCnt (rT s).2.1 (rT s).2.2 16
def rL (m : Int) (s : ByteArray) : Lab := ⟨((rI s).1 : Int), ((rU s).1 : Int), (rN s).1, (rT s).1, (rdK m (rC s).2.1 (rC s).2.2 (rC s).1).1⟩
def rE (m : Int) (s : ByteArray) : Int := (rdK m (rC s).2.1 (rC s).2.2 (rC s).1).2.2
theorem rdK_next {m : Int} {s s1 s2 s3 : ByteArray} {e e1 e2 e3 : Int} {k a b : Nat} {L : List (Int × Int)} (h : rdK m s e k = (L, s1, e1)) (h1 : RCnt s1 e1 m = (a, s2, e2)) (h2 : RCnt s2 e2 128 = (b, s3, e3)) :
    rdK m s e (k + 1) = (L ++ [((a : Int), (b : Int))], s3, e3) := by simp only [rdK, h, h1, h2]
def decP (s : ByteArray) (t : Int) : Lab × Int :=
  if okT t = false ∨ s.size ≠ 1024 then (labZ, 11) else if s = padS 1024 ⟨#[]⟩ then (labZ, 0)
  else if validL (rL 128 s) t = true ∧ encS (rL 128 s) t = s then (rL 128 s, 0) else (labZ, 11)
end Go.Proofs.Ytnlaogneceanoaa
namespace Go.Proofs.Ytnlaogneceanoaa
set_option linter.unusedVariables false
set_option linter.unusedSimpArgs false
set_option linter.unusedSectionVars false
open Go.RowKit
theorem rdK_runs (m : Int) (l : List (Int × Int)) (rest : List UInt8) (hm : m ≤ 1000000) (h : ∀ x ∈ l, 0 ≤ x.1 ∧ x.1 ≤ m ∧ 0 ≤ x.2 ∧ x.2 ≤ 128) :
    ∀ k, k ≤ l.length → rdK m ⟨(runsL l ++ rest).toArray⟩ 0 k = (l.take k, ⟨(runsL (l.drop k) ++ rest).toArray⟩, 0) := by
  intro k
  induction k with
  | zero => intro _; rfl
  | succ k ih =>
    intro hk
    have h0 := ih (by omega)
    obtain ⟨x0, x1, x2, x3⟩ := h l[k] (List.getElem_mem (by omega))
    rw [List.drop_eq_getElem_cons (by omega)] at h0
    have e1 : runsL (l[k] :: l.drop (k + 1)) ++ rest = enc (l[k].1).toNat ++ (enc (l[k].2).toNat ++ (runsL (l.drop (k + 1)) ++ rest)) := by
      show (enc _ ++ (enc _ ++ runsL _)) ++ rest = _
      simp only [List.append_assoc]
    rw [e1] at h0
    have h3 := rdK_next h0 (RCnt_app (l[k].1).toNat _ m (by omega) (by omega)) (RCnt_app (l[k].2).toNat _ 128 (by omega) (by omega))
    rw [h3, List.take_succ_eq_append_getElem (by omega)]
    congr 3
    rw [Int.toNat_of_nonneg x0, Int.toNat_of_nonneg x2]
theorem rL_all (m : Int) (l : Lab) (z : Nat) (hm : m ≤ 1000000) (hl : (1 ≤ l.id ∧ l.id ≤ 1099511627776 ∧ 0 ≤ l.unit ∧ l.unit ≤ 1099511627776) ∧ (l.name.size ≤ 31 ∧ l.note.size ≤ 400) ∧ (1 ≤ l.ext.length ∧ l.ext.length ≤ 16) ∧ jnB l = true)
    (h : ∀ x ∈ l.ext, 0 ≤ x.1 ∧ x.1 ≤ m ∧ 0 ≤ x.2 ∧ x.2 ≤ 128) (s : ByteArray) (hs : s = ⟨(allL l z).toArray⟩) : rL m s = l ∧ rE m s = 0 := by
  obtain ⟨⟨a1, a2, a3, a4⟩, ⟨a5, a6⟩, ⟨a7, a8⟩, _⟩ := hl
  obtain ⟨id, unit, name, note, ext⟩ := l
  simp only at *
  have n1 : name.data.toList.length = name.size := Array.length_toList
  have n2 : note.data.toList.length = note.size := Array.length_toList
  unfold allL at hs
  simp only at hs
  have q1 := (congrArg rI hs).trans (RCnt_app id.toNat _ 1099511627776 (by omega) (by omega))
  have q2 : rU s = RCnt (rI s).2.1 (rI s).2.2 1099511627776 := rfl
  rw [q1] at q2
  have q2 := q2.trans (RCnt_app unit.toNat _ 1099511627776 (by omega) (by omega))
  rw [← n1, ← n2] at q2
  have q3 : rN s = RTxt (rU s).2.1 (rU s).2.2 31 := rfl
  rw [q2] at q3
  have q3 := q3.trans (RTxt_app _ _ 31 (by omega) (by omega))
  have q4 : rT s = RTxt (rN s).2.1 (rN s).2.2 400 := rfl
  rw [q3] at q4
  have q4 := q4.trans (RTxt_app _ _ 400 (by omega) (by omega))
  have q5 : rC s = RCnt (rT s).2.1 (rT s).2.2 16 := rfl
  rw [q4] at q5
  have q5 := q5.trans (RCnt_app ext.length _ 16 (by omega) (by omega))
  have q6 := rdK_runs m ext (List.replicate z 0) hm h ext.length (Nat.le_refl _)
  rw [List.take_length] at q6
  refine ⟨?_, ?_⟩
  · unfold rL
    rw [q1, q2, q3, q4, q5]
    simp only [q6, data_eq]
    rw [Int.toNat_of_nonneg (by omega), Int.toNat_of_nonneg a3]
  · unfold rE
    rw [q5]
    simp only [q6]
theorem trip (m : Int) (l : Lab) (t : Int) (h : validL l t = true) (m0 : 127 ≤ m) (m1 : m ≤ 1000000) : rL m (encS l t) = l ∧ rE m (encS l t) = 0 := by
  have hf := valid_facts l t h
  obtain ⟨h1, h2, h3, h4⟩ := hf
  have ht := okT_true (show okT t = true from by unfold validL at h; revert h; cases okT t <;> simp)
  have hi : inB l t = true := by unfold validL at h; revert h; cases inB l t <;> simp
  have hb := jn_bd l h4
  have hr := rok_of l t h4 hi
  refine rL_all m l (1024 - (bodyE l ++ runsE l.ext).size) m1 ⟨h1, h2, h3, h4⟩ (fun x hx => ?_) _ (by rw [encS_valid l t h, ← pad_data, data_eq])
  obtain ⟨b0, b1, b2⟩ := hb x hx
  obtain ⟨r0, r1, r2, r3⟩ := hr x hx
  exact ⟨b0, by omega, b1, by omega⟩
/-- A valid label is read again from its slot. -/
theorem dec_enc_lab (l : Lab) (t : Int) (h : validL l t = true) (hs : (encS l t).size = 1024) : decP (encS l t) t = (l, 0) := by
  have ht : okT t = true := by unfold validL at h; revert h; cases okT t <;> simp
  have hr := (trip 128 l t h (by omega) (by omega)).1
  have hz : encS l t ≠ padS 1024 ⟨#[]⟩ := by
    intro e
    have h1 := congrArg (fun s => (rI s).1) e
    have h2 : (rI (padS 1024 ⟨#[]⟩)).1 = 0 := by
      have := RCnt_app 0 (List.replicate 1023 0) 1099511627776 (by omega) (by omega)
      unfold rI
      have e2 : padS 1024 ⟨#[]⟩ = ⟨(enc 0 ++ List.replicate 1023 0).toArray⟩ := by
        apply bytes_eq
        have e4 : (padS 1024 ⟨#[]⟩).data.toList = List.replicate 1024 0 := by
          unfold padS zeros
          simp only [ByteArray.data_append, Array.toList_append, Array.toList_replicate]
          rfl
        rw [e4]
        have e3 : enc 0 = [0] := by decide
        rw [e3]
        exact List.replicate_succ (n := 1023)
      rw [e2, this]
    simp only [h2] at h1
    have h3 : ((rI (encS l t)).1 : Int) = l.id := congrArg Lab.id hr
    have h4 := (valid_facts l t h).1.1
    omega
  unfold decP
  rw [if_neg (by rw [ht, hs]; simp), if_neg hz, hr, if_pos ⟨h, rfl⟩]
theorem encS_size (l : Lab) (t : Int) (h : validL l t = true) : (encS l t).size = 1024 := by
  obtain ⟨⟨v1, v2, v3, v4⟩, ⟨v5, v6⟩, ⟨v7, v8⟩, _⟩ := valid_facts l t h
  rw [encS_valid l t h]
  refine padS_size _ _ ?_
  have h1 := bodyE_size l v5 v6
  have h2 := runsE_size l.ext
  rw [ByteArray.size_append]
  omega
end Go.Proofs.Ytnlaogneceanoaa
namespace Go.Proofs.Ytnlaogneceanoaa
set_option linter.unusedVariables false
set_option linter.unusedSimpArgs false
set_option linter.unusedSectionVars false
open Go.RowKit
def bestStep (n : Int) (b r : Nat × Nat) : Nat × Nat := if n ≤ (r.2 : Int) ∧ (b.2 = 0 ∨ r.2 < b.2) then r else b
def bestF (n : Int) (l : List (Nat × Nat)) : Nat × Nat := l.foldl (bestStep n) (0, 0)
theorem bestF_snoc (n : Int) (l : List (Nat × Nat)) (k : Nat) (h : k < l.length) : bestF n (l.take (k + 1)) = bestStep n (bestF n (l.take k)) l[k] := by
  unfold bestF; rw [List.take_succ_eq_append_getElem h, List.foldl_append]; rfl
theorem fold_inv {n : Int} (P : Nat × Nat → Prop) : ∀ (l : List (Nat × Nat)) (b : Nat × Nat), P b → (∀ r ∈ l, n ≤ (r.2 : Int) → P r) → P (l.foldl (bestStep n) b) := by
  intro l
  induction l with
  | nil => intro b hb _; exact hb
  | cons r l ih =>
    intro b hb h
    refine ih _ ?_ (fun x hx => h x (List.mem_cons_of_mem _ hx))
    unfold bestStep
    split
    · rename_i hc; exact h r (List.mem_cons_self ..) hc.1
    · exact hb
theorem bestF_inv {n : Int} (P : Nat × Nat → Prop) (l : List (Nat × Nat)) (h0 : P (0, 0)) (h : ∀ r ∈ l, n ≤ (r.2 : Int) → P r) : P (bestF n l) := fold_inv P l _ h0 h
theorem bestF_bd (n : Int) (l : List (Nat × Nat)) (m : Nat) (h : ∀ r ∈ l, r.1 + r.2 ≤ m) : (bestF n l).1 + (bestF n l).2 ≤ m :=
  bestF_inv (fun b => b.1 + b.2 ≤ m) l (Nat.zero_le _) (fun r hr _ => h r hr)
theorem bestF_mem (n : Int) (l : List (Nat × Nat)) : bestF n l = (0, 0) ∨ bestF n l ∈ l ∧ n ≤ ((bestF n l).2 : Int) :=
  bestF_inv (fun b => b = (0, 0) ∨ b ∈ l ∧ n ≤ (b.2 : Int)) l (.inl rfl) (fun r hr h => .inr ⟨hr, h⟩)
/-- The first tracks of the best run of a set. -/
def bestS (S : Nat → Bool) (n : Int) : (Int × Int) × Bool :=
  if n < 1 ∨ (bestF n (normS S)).2 = 0 then ((0, 0), false) else ((((bestF n (normS S)).1 : Int), n), true)
def cntL (l : List (Nat × Nat)) : Nat := (l.map (·.2)).sum
theorem cntL_append (a b : List (Nat × Nat)) : cntL (a ++ b) = cntL a + cntL b := by simp [cntL]
theorem cntL_one (x : Nat × Nat) : cntL [x] = x.2 := by simp [cntL]
theorem cntL_snoc (l : List (Nat × Nat)) (k : Nat) (h : k < l.length) : cntL (l.take (k + 1)) = cntL (l.take k) + l[k].2 := by
  rw [List.take_succ_eq_append_getElem h, cntL_append, cntL_one]
/-- What is taken from runs, one behind the other. -/
def takeR : List (Nat × Nat) → Nat → List (Nat × Nat)
  | [], _ => []
  | r :: l, n => if n = 0 then [] else (r.1, min r.2 n) :: takeR l (n - min r.2 n)
theorem takeR_end (x : Nat × Nat) : ∀ (l : List (Nat × Nat)) (n : Nat), takeR (l ++ [x]) n = takeR l n ++ (if n - cntL l = 0 then [] else [(x.1, min x.2 (n - cntL l))]) := by
  intro l
  induction l with
  | nil => intro n; show takeR [x] n = _; unfold takeR; by_cases h : n = 0 <;> simp [h, cntL, takeR]
  | cons r l ih =>
    intro n
    have e : cntL (r :: l) = r.2 + cntL l := by simp [cntL]
    show takeR (r :: (l ++ [x])) n = takeR (r :: l) n ++ _
    rw [takeR, takeR]
    by_cases h : n = 0
    · rw [if_pos h, if_pos h, if_pos (by omega)]; rfl
    · rw [if_neg h, if_neg h, ih, e, show n - min r.2 n - cntL l = n - (r.2 + cntL l) from by omega]; rfl
theorem takeR_snoc (l : List (Nat × Nat)) (k n : Nat) (h : k < l.length) : takeR (l.take (k + 1)) n = takeR (l.take k) n ++ (if n - cntL (l.take k) = 0 then [] else [(l[k].1, min l[k].2 (n - cntL (l.take k)))]) := by
  rw [List.take_succ_eq_append_getElem h, takeR_end]
theorem takeR_stop (b : List (Nat × Nat)) : ∀ (a : List (Nat × Nat)) (n : Nat), n - cntL a = 0 → takeR (a ++ b) n = takeR a n := by
  intro a
  induction a with
  | nil =>
    intro n h
    have hn : n = 0 := by simpa [cntL] using h
    subst hn
    cases b <;> simp [takeR]
  | cons r l ih =>
    intro n h
    have e : cntL (r :: l) = r.2 + cntL l := by simp [cntL]
    show takeR (r :: (l ++ b)) n = takeR (r :: l) n
    rw [takeR, takeR]
    by_cases h0 : n = 0
    · rw [if_pos h0, if_pos h0]
    · rw [if_neg h0, if_neg h0, ih _ (by omega)]
theorem takeR_bd (m : Nat) : ∀ (l : List (Nat × Nat)) (n : Nat), (∀ r ∈ l, r.1 + r.2 ≤ m) → ∀ r ∈ takeR l n, r.1 + r.2 ≤ m := by
  intro l
  induction l with
  | nil => intro n _ r hr; cases hr
  | cons x l ih =>
    intro n h r hr
    rw [takeR] at hr
    split at hr
    · cases hr
    · rcases List.mem_cons.1 hr with rfl | hr
      · have := h x (List.mem_cons_self ..); show x.1 + min x.2 n ≤ m; omega
      · exact ih _ (fun y hy => h y (List.mem_cons_of_mem _ hy)) r hr
theorem takeR_len : ∀ (l : List (Nat × Nat)) (n : Nat), (takeR l n).length ≤ l.length := by
  intro l
  induction l with
  | nil => intro n; exact Nat.zero_le _
  | cons x l ih =>
    intro n
    rw [takeR]
    split
    · exact Nat.zero_le _
    · rw [List.length_cons, List.length_cons]; have := ih (n - min x.2 n); omega
theorem normTo_asc (S : Nat → Bool) (k : Nat) : (normTo S k).Pairwise (fun a b => a.1 + a.2 < b.1) ∧ ∀ r ∈ normTo S k, 1 ≤ r.2 := by
  induction k with
  | zero => exact ⟨List.Pairwise.nil, fun r hr => by cases hr⟩
  | succ k ih =>
    show (stepN S (normTo S k) k).Pairwise _ ∧ ∀ r ∈ stepN S (normTo S k) k, _
    have hbd := normTo_bd S k
    unfold stepN
    split
    · exact ih
    · split
      · rename_i h1 h2
        rcases normTo_end S k with ⟨_, h⟩ | ⟨i, x, hx, _⟩
        · rw [h h2.1] at h2; cases h2.2
        · rw [hx] at ih ⊢
          have hb : bump (i ++ [x]) = i ++ [(x.1, x.2 + 1)] := by unfold bump; rw [last_getD, last_set]
          rw [hb]
          obtain ⟨ih1, ih2⟩ := ih
          rw [List.pairwise_append] at ih1 ⊢
          refine ⟨⟨ih1.1, List.pairwise_singleton _ _, fun a ha b hb => ?_⟩, fun r hr => ?_⟩
          · rw [List.mem_singleton.1 hb]; exact ih1.2.2 a ha x (List.mem_singleton.2 rfl)
          · rcases List.mem_append.1 hr with hr | hr
            · exact ih2 r (List.mem_append_left _ hr)
            · rw [List.mem_singleton.1 hr]; show 1 ≤ x.2 + 1; omega
      · rename_i h1 h2
        rcases normTo_end S k with ⟨h0, _⟩ | ⟨i, x, hx, hiff⟩
        · rw [h0]
          refine ⟨by rw [List.nil_append]; exact List.pairwise_singleton _ _, fun r hr => ?_⟩
          rw [List.nil_append] at hr
          rw [List.mem_singleton.1 hr]; exact Nat.le_refl _
        · rw [hx] at ih hbd ⊢
          obtain ⟨ih1, ih2⟩ := ih
          have hxb := hbd x (List.mem_append_right _ (List.mem_singleton.2 rfl))
          have hne : x.1 + x.2 ≠ k := fun e => h2 (hiff.1 e)
          refine ⟨List.pairwise_append.2 ⟨ih1, List.pairwise_singleton _ _, fun a ha b hb => ?_⟩, fun r hr => ?_⟩
          · rw [List.mem_singleton.1 hb]
            show a.1 + a.2 < k
            rcases List.mem_append.1 ha with ha | ha
            · have := (List.pairwise_append.1 ih1).2.2 a ha x (List.mem_singleton.2 rfl)
              omega
            · rw [List.mem_singleton.1 ha]; omega
          · rcases List.mem_append.1 hr with hr | hr
            · exact ih2 r hr
            · rw [List.mem_singleton.1 hr]; exact Nat.le_refl _
/-- The runs by decreasing size, and those of one size in their order. -/
def sortS (l : List (Nat × Nat)) : List (Nat × Nat) := (List.range 128).flatMap fun i => l.filter fun r => r.2 == 128 - i
theorem mem_sortS (l : List (Nat × Nat)) (h : ∀ r ∈ l, 1 ≤ r.2 ∧ r.2 ≤ 128) (r : Nat × Nat) : r ∈ sortS l ↔ r ∈ l := by
  unfold sortS
  rw [List.mem_flatMap]
  constructor
  · rintro ⟨i, _, hr⟩; exact (List.mem_filter.1 hr).1
  · intro hr
    have := h r hr
    exact ⟨128 - r.2, List.mem_range.2 (by omega), List.mem_filter.2 ⟨hr, by rw [beq_iff_eq]; omega⟩⟩
/-- Which run comes first. -/
def ltR (a b : Nat × Nat) : Prop := b.2 < a.2 ∨ a.2 = b.2 ∧ a.1 < b.1
theorem sortS_sorted (l : List (Nat × Nat)) (h : l.Pairwise (fun a b => a.1 < b.1)) : (sortS l).Pairwise ltR := by
  unfold sortS
  rw [List.flatMap_def, List.pairwise_flatten]
  refine ⟨fun x hx => ?_, ?_⟩
  · obtain ⟨i, _, rfl⟩ := List.mem_map.1 hx
    refine (List.Pairwise.imp_of_mem ?_ (h.filter _))
    intro a b ha hb hab
    have h1 := (List.mem_filter.1 ha).2
    have h2 := (List.mem_filter.1 hb).2
    rw [beq_iff_eq] at h1 h2
    exact .inr ⟨by omega, hab⟩
  · rw [List.pairwise_map]
    refine List.Pairwise.imp_of_mem ?_ (List.pairwise_lt_range (n := 128))
    intro i j hi hj hij a ha b hb
    have h1 := (List.mem_filter.1 ha).2
    have h2 := (List.mem_filter.1 hb).2
    rw [beq_iff_eq] at h1 h2
    have := List.mem_range.1 hi
    have := List.mem_range.1 hj
    exact .inl (by omega)
theorem ltR_asymm {a b : Nat × Nat} (h : ltR a b) (h' : ltR b a) : False := by
  unfold ltR at h h'; omega
theorem sorted_one : ∀ (a b : List (Nat × Nat)), a.Perm b → a.Pairwise ltR → b.Pairwise ltR → a = b := by
  intro a
  induction a with
  | nil => intro b hp _ _; exact hp.nil_eq
  | cons x a ih =>
    intro b hp ha hb
    cases b with
    | nil => exact absurd hp.length_eq (by simp)
    | cons y b =>
      have hxy : x = y := by
        have h1 : x ∈ y :: b := hp.subset (List.mem_cons_self ..)
        have h2 : y ∈ x :: a := hp.symm.subset (List.mem_cons_self ..)
        rcases List.mem_cons.1 h1 with h1 | h1
        · exact h1
        · rcases List.mem_cons.1 h2 with h2 | h2
          · exact h2.symm
          · exact (ltR_asymm ((List.pairwise_cons.1 ha).1 y h2) ((List.pairwise_cons.1 hb).1 x h1)).elim
      subst hxy
      rw [ih b ((List.perm_cons x).1 hp) (List.pairwise_cons.1 ha).2 (List.pairwise_cons.1 hb).2]
theorem nodup_asc {l : List (Nat × Nat)} (h : l.Pairwise (fun a b => a.1 < b.1)) : l.Nodup :=
  List.Pairwise.imp (fun hab e => by rw [e] at hab; omega) h
theorem sorted_nodup {l : List (Nat × Nat)} (h : l.Pairwise ltR) : l.Nodup :=
  List.Pairwise.imp (fun hab e => by rw [e] at hab; exact ltR_asymm hab hab) h
theorem sortS_perm (l : List (Nat × Nat)) (h : ∀ r ∈ l, 1 ≤ r.2 ∧ r.2 ≤ 128) (ha : l.Pairwise (fun a b => a.1 < b.1)) : l.Perm (sortS l) :=
  (List.perm_ext_iff_of_nodup (nodup_asc ha) (sorted_nodup (sortS_sorted l ha))).2 (fun r => (mem_sortS l h r).symm)
theorem normS_asc (S : Nat → Bool) : (normS S).Pairwise (fun a b => a.1 < b.1) :=
  List.Pairwise.imp (fun h => by omega) (normTo_asc S 128).1
theorem normS_cnt (S : Nat → Bool) : ∀ r ∈ normS S, 1 ≤ r.2 ∧ r.2 ≤ 128 := fun r hr => ⟨(normTo_asc S 128).2 r hr, by have := normS_bd S r hr; omega⟩
/-- A sorted order of the runs of a set is the one that is meant. -/
theorem sort_is (S : Nat → Bool) (d : List (Nat × Nat)) (hp : d.Perm (normS S)) (hs : ∀ i j (hi : i < d.length) (hj : j < d.length), i < j → ¬ ltR d[j] d[i]) : d = sortS (normS S) := by
  refine sorted_one _ _ (hp.trans (sortS_perm _ (normS_cnt S) (normS_asc S))) ?_ (sortS_sorted _ (normS_asc S))
  have hn : d.Nodup := (hp.nodup_iff).2 (nodup_asc (normS_asc S))
  have hd : d.Pairwise (fun a b => a.1 ≠ b.1) := by
    have h1 : (normS S).Pairwise (fun a b => a.1 ≠ b.1) := List.Pairwise.imp (fun h => by omega) (normS_asc S)
    exact (hp.pairwise_iff (fun {a b} h e => h e.symm)).2 h1
  rw [List.pairwise_iff_getElem] at hd ⊢
  intro i j hi hj hij
  have h1 := hd i j hi hj hij
  have h2 := hs i j hi hj hij
  unfold ltR at h2 ⊢
  omega
end Go.Proofs.Ytnlaogneceanoaa
