/- The reader's methods. -/
import Derived.Test.YtkiciojipiakoaaWireD
namespace Go.Proofs.Ytkiciojipiakoaa
set_option linter.unusedVariables false
set_option linter.unusedSimpArgs false
set_option linter.unusedSectionVars false
open Go.RowKit

/-- A reader in memory. -/
def Rd (w : World) (g : Nat) (s : ByteArray) (err : Int) : Prop := Blk w g 75 #[.string s, .int .i64 err]
theorem Rd.facts {w : World} {g : Nat} {s : ByteArray} {err : Int} (h : Rd w g s err) : g < w.heap.size ∧ w.cell? ⟨g, 0, none⟩ = some (.string s) ∧ w.cell? ⟨g, 1, none⟩ = some (.int .i64 err) ∧ w.frozen? ⟨g, 0, none⟩ = false ∧ w.frozen? ⟨g, 1, none⟩ = false :=
  ⟨h.lt, h.cell 0, h.cell 1, h.frozen 0, h.frozen 1⟩

def RNum (s : ByteArray) (err : Int) : Nat × ByteArray × Int :=
  if err ≠ 0 then (0, s, err) else if decN s.data.toList = 0 then (0, ⟨#[]⟩, 11) else (decV s.data.toList, s.extract (decN s.data.toList) s.size, 0)

theorem decF_le (l : List UInt8) : ∀ i acc, (decF i acc l).2 ≤ i + l.length := by
  induction l with
  | nil => intro i acc; simp [decF]
  | cons b l ih =>
    intro i acc
    have := ih (i + 1) (acc + b.toNat % 128 * 128 ^ i)
    rw [decF, List.length_cons]
    repeat' split
    all_goals first | exact Nat.zero_le _ | omega
theorem decN_le (s : ByteArray) : decN s.data.toList ≤ s.size := by
  have := decF_le s.data.toList 0 0
  rw [Nat.zero_add, Array.length_toList] at this
  exact this
theorem decV_zero (l : List UInt8) (h : decN l = 0) : decV l = 0 := by
  have key : ∀ (l : List UInt8) i acc, (decF i acc l).2 = 0 → (decF i acc l).1 = 0 := by
    intro l
    induction l with
    | nil => intro i acc _; rfl
    | cons b l ih =>
      intro i acc
      have := ih (i + 1) (acc + b.toNat % 128 * 128 ^ i)
      rw [decF]
      repeat' split
      all_goals first | (intro _; rfl) | (intro hh; exact absurd hh (by omega)) | exact this
  exact key l 0 0 h
theorem decN_ten (l : List UInt8) : decN l ≤ 10 := by
  have key : ∀ (l : List UInt8) i acc, i ≤ 10 → (decF i acc l).2 ≤ 10 := by
    intro l
    induction l with
    | nil => intro i acc _; simp [decF]
    | cons b l ih =>
      intro i acc hi
      rw [decF]
      split
      · exact Nat.zero_le _
      · have := ih (i + 1) (acc + b.toNat % 128 * 128 ^ i) (by omega)
        repeat' split
        all_goals first | exact Nat.zero_le _ | omega
  exact key l 0 0 (by omega)

set_option maxRecDepth 100000 in
set_option maxHeartbeats 1000000 in
theorem rnumber_any (g : Nat) (s : ByteArray) (err : Int) (w : World) (h : Rd w g s err) (hs : s.size ≤ 9223372036854775807) :
    Calls Try.prog 64 #[.pointer (some ⟨g, 0, none⟩)] w fun e w' => e = .returned (.int .u64 (RNum s err).1) ∧ Turned (· = g) w w' ∧ Rd w' g (RNum s err).2.1 (RNum s err).2.2 := by
  unfold RNum
  obtain ⟨hl, c0, c1, f0, f1⟩ := h.facts
  by_cases he : err ≠ 0
  · rw [if_pos he]
    go_enter Try.func64, Try.ntmps64
    go_wp2
    go_ret
    exact ⟨rfl, by (repeat' first | (with_reducible exact Turned.refl _ _) | (with_reducible assumption) | (with_reducible refine Turned.alloc ?_ _) | (with_reducible refine Turned.drew ?_) | (with_reducible refine Turned.drewN ?_ _) | (with_reducible refine Turned.setRow ?_ (by first | (simp; done) | (simp; omega) | omega) _) | (with_reducible refine Turned.setCell ?_ (by first | (simp; done) | (simp; omega) | omega) _) | ((with_reducible apply Turned.andGrew); rotate_left; (with_reducible assumption)) | ((with_reducible apply Turned.trans); rotate_left; (with_reducible assumption)) | fail), by unfold Rd at h ⊢; (apply Blk.conv; (· (repeat' first | (with_reducible assumption) | (with_reducible apply Blk.setRow) | ((with_reducible apply Blk.farRow); rotate_left; (focus (first | (simp; done) | (simp; omega) | omega))) | (with_reducible apply Blk.drew) | (with_reducible apply Blk.drewN) | (with_reducible apply Blk.set_) | (with_reducible exact Blk.new _ _ _ (by first | rfl | (simp; done) | (simp; omega))) | (with_reducible apply Blk.alloc) | ((with_reducible apply Blk.far); rotate_left; (focus (first | (simp; done) | (simp; omega) | omega))) | ((with_reducible apply Blk.grew); rotate_left; (with_reducible assumption)) | ((with_reducible apply Blk.turned); rotate_left; (with_reducible assumption); (focus (first | (simp; done) | (simp; omega) | omega))) | fail)); (· rfl))⟩
  · rw [if_neg he]
    obtain rfl : err = 0 := by omega
    by_cases hd : decN s.data.toList = 0
    · rw [if_pos hd]
      have hz := decV_zero _ hd
      go_enter Try.func64, Try.ntmps64
      go_wp2_with (first | (go_at_call 73; refine (decode_any s _ hs).mono ?_; rintro e w' ⟨rfl, rfl⟩) | go_in)
      go_ret
      exact ⟨rfl, by (repeat' first | (with_reducible exact Turned.refl _ _) | (with_reducible assumption) | (with_reducible refine Turned.alloc ?_ _) | (with_reducible refine Turned.drew ?_) | (with_reducible refine Turned.drewN ?_ _) | (with_reducible refine Turned.setRow ?_ (by first | (simp; done) | (simp; omega) | omega) _) | (with_reducible refine Turned.setCell ?_ (by first | (simp; done) | (simp; omega) | omega) _) | ((with_reducible apply Turned.andGrew); rotate_left; (with_reducible assumption)) | ((with_reducible apply Turned.trans); rotate_left; (with_reducible assumption)) | fail), by unfold Rd at h ⊢; (apply Blk.conv; (· (repeat' first | (with_reducible assumption) | (with_reducible apply Blk.setRow) | ((with_reducible apply Blk.farRow); rotate_left; (focus (first | (simp; done) | (simp; omega) | omega))) | (with_reducible apply Blk.drew) | (with_reducible apply Blk.drewN) | (with_reducible apply Blk.set_) | (with_reducible exact Blk.new _ _ _ (by first | rfl | (simp; done) | (simp; omega))) | (with_reducible apply Blk.alloc) | ((with_reducible apply Blk.far); rotate_left; (focus (first | (simp; done) | (simp; omega) | omega))) | ((with_reducible apply Blk.grew); rotate_left; (with_reducible assumption)) | ((with_reducible apply Blk.turned); rotate_left; (with_reducible assumption); (focus (first | (simp; done) | (simp; omega) | omega))) | fail)); (· rfl))⟩
    · rw [if_neg hd]
      have hle := decN_le s
      have hd' : 0 < decN s.data.toList := by omega
      go_enter Try.func64, Try.ntmps64
      go_wp2_with (first | (go_at_call 73; refine (decode_any s _ hs).mono ?_; rintro e w' ⟨rfl, rfl⟩) | go_in)
      go_ret
      exact ⟨rfl, by (repeat' first | (with_reducible exact Turned.refl _ _) | (with_reducible assumption) | (with_reducible refine Turned.alloc ?_ _) | (with_reducible refine Turned.drew ?_) | (with_reducible refine Turned.drewN ?_ _) | (with_reducible refine Turned.setRow ?_ (by first | (simp; done) | (simp; omega) | omega) _) | (with_reducible refine Turned.setCell ?_ (by first | (simp; done) | (simp; omega) | omega) _) | ((with_reducible apply Turned.andGrew); rotate_left; (with_reducible assumption)) | ((with_reducible apply Turned.trans); rotate_left; (with_reducible assumption)) | fail), by unfold Rd at h ⊢; (apply Blk.conv; (· (repeat' first | (with_reducible assumption) | (with_reducible apply Blk.setRow) | ((with_reducible apply Blk.farRow); rotate_left; (focus (first | (simp; done) | (simp; omega) | omega))) | (with_reducible apply Blk.drew) | (with_reducible apply Blk.drewN) | (with_reducible apply Blk.set_) | (with_reducible exact Blk.new _ _ _ (by first | rfl | (simp; done) | (simp; omega))) | (with_reducible apply Blk.alloc) | ((with_reducible apply Blk.far); rotate_left; (focus (first | (simp; done) | (simp; omega) | omega))) | ((with_reducible apply Blk.grew); rotate_left; (with_reducible assumption)) | ((with_reducible apply Blk.turned); rotate_left; (with_reducible assumption); (focus (first | (simp; done) | (simp; omega) | omega))) | fail)); (· rfl))⟩
theorem RNum_size (s : ByteArray) (err : Int) : (RNum s err).2.1.size ≤ s.size := by
  unfold RNum
  repeat' split
  · exact Nat.le_refl _
  · exact Nat.zero_le _
  · rw [ByteArray.size_extract]; omega
def RBool (s : ByteArray) (err : Int) : Bool × ByteArray × Int :=
  if err ≠ 0 then (false, s, err) else if h : s.size = 0 then (false, ⟨#[]⟩, 11) else if 1 < (s[0]'(by omega)).toNat then (false, ⟨#[]⟩, 11)
  else (decide ((s[0]'(by omega)).toNat = 1), s.extract 1 s.size, 0)
def RCnt (s : ByteArray) (err most : Int) : Nat × ByteArray × Int :=
  if (RNum s err).2.2 ≠ 0 then (0, (RNum s err).2.1, (RNum s err).2.2)
  else if most < 0 ∨ most < ((RNum s err).1 : Int) then (0, ⟨#[]⟩, 8) else RNum s err
def RTxt (s : ByteArray) (err most : Int) : ByteArray × ByteArray × Int :=
  if (RCnt s err most).2.2 ≠ 0 then (⟨#[]⟩, (RCnt s err most).2.1, (RCnt s err most).2.2)
  else if (RCnt s err most).2.1.size < (RCnt s err most).1 then (⟨#[]⟩, ⟨#[]⟩, 11)
  else ((RCnt s err most).2.1.extract 0 (RCnt s err most).1, (RCnt s err most).2.1.extract (RCnt s err most).1 (RCnt s err most).2.1.size, 0)
def unzig (n : Nat) : Int := if n % 2 = 1 then -((n / 2 : Nat) : Int) - 1 else ((n / 2 : Nat) : Int)

set_option maxRecDepth 100000 in
set_option maxHeartbeats 1000000 in
theorem rfail_any (g : Nat) (s : ByteArray) (k : Int) (w : World) (h : Rd w g s 0) :
    Calls Try.prog 65 #[.pointer (some ⟨g, 0, none⟩), .int .i64 k] w fun e w' => e = .returned (.tuple #[]) ∧ Turned (· = g) w w' ∧ Rd w' g ⟨#[]⟩ k := by
  obtain ⟨hl, c0, c1, f0, f1⟩ := h.facts
  go_enter Try.func65, Try.ntmps65
  go_wp2
  go_end0
  exact ⟨rfl, by (repeat' first | (with_reducible exact Turned.refl _ _) | (with_reducible assumption) | (with_reducible refine Turned.alloc ?_ _) | (with_reducible refine Turned.drew ?_) | (with_reducible refine Turned.drewN ?_ _) | (with_reducible refine Turned.setRow ?_ (by first | (simp; done) | (simp; omega) | omega) _) | (with_reducible refine Turned.setCell ?_ (by first | (simp; done) | (simp; omega) | omega) _) | ((with_reducible apply Turned.andGrew); rotate_left; (with_reducible assumption)) | ((with_reducible apply Turned.trans); rotate_left; (with_reducible assumption)) | fail), by unfold Rd at h ⊢; (apply Blk.conv; (· (repeat' first | (with_reducible assumption) | (with_reducible apply Blk.setRow) | ((with_reducible apply Blk.farRow); rotate_left; (focus (first | (simp; done) | (simp; omega) | omega))) | (with_reducible apply Blk.drew) | (with_reducible apply Blk.drewN) | (with_reducible apply Blk.set_) | (with_reducible exact Blk.new _ _ _ (by first | rfl | (simp; done) | (simp; omega))) | (with_reducible apply Blk.alloc) | ((with_reducible apply Blk.far); rotate_left; (focus (first | (simp; done) | (simp; omega) | omega))) | ((with_reducible apply Blk.grew); rotate_left; (with_reducible assumption)) | ((with_reducible apply Blk.turned); rotate_left; (with_reducible assumption); (focus (first | (simp; done) | (simp; omega) | omega))) | fail)); (· rfl))⟩
def REnd (s : ByteArray) (err : Int) : Int := if err = 0 ∧ 0 < s.size then 11 else err
theorem toList_nil {s : ByteArray} (h : s.size = 0) : s.toList = [] := by
  rw [ByteArray.toList_eq]; exact List.length_eq_zero_iff.1 (by rw [Array.length_toList]; exact h)
theorem toList_cons {s : ByteArray} (h : 0 < s.size) : ¬ s.toList = [] := by
  rw [ByteArray.toList_eq]
  intro hh
  have := congrArg List.length hh
  rw [Array.length_toList] at this
  have h2 : s.size = 0 := this
  omega
set_option maxRecDepth 100000 in
set_option maxHeartbeats 1000000 in
theorem newReader_any (s : ByteArray) (w : World) :
    Calls Try.prog 52 #[.string s] w fun e w' => ∃ g, e = .returned (.pointer (some ⟨g, 0, none⟩)) ∧ w.heap.size ≤ g ∧ Grew w w' ∧ Rd w' g s 0 := by
  go_enter Try.func52, Try.ntmps52
  go_wp2
  go_ret
  exact ⟨_, rfl, Nat.le_refl _, by (repeat' first | (with_reducible exact Grew.refl _) | (with_reducible assumption) | (with_reducible refine Grew.alloc ?_ _) | (with_reducible refine Grew.drew ?_) | (with_reducible refine Grew.drewN ?_ _) | (with_reducible refine Grew.setRow ?_ (by first | (simp; done) | (simp; omega) | omega) _) | (with_reducible refine Grew.setCell ?_ (by first | (simp; done) | (simp; omega) | omega) _) | ((with_reducible apply Grew.trans); rotate_left; (with_reducible assumption)) | ((with_reducible apply Grew.turn); rotate_left; (with_reducible assumption); (focus (intro i hi; first | omega | (simp at hi; omega)))) | fail), by unfold Rd; (apply Blk.conv; (· (repeat' first | (with_reducible assumption) | (with_reducible apply Blk.setRow) | ((with_reducible apply Blk.farRow); rotate_left; (focus (first | (simp; done) | (simp; omega) | omega))) | (with_reducible apply Blk.drew) | (with_reducible apply Blk.drewN) | (with_reducible apply Blk.set_) | (with_reducible exact Blk.new _ _ _ (by first | rfl | (simp; done) | (simp; omega))) | (with_reducible apply Blk.alloc) | ((with_reducible apply Blk.far); rotate_left; (focus (first | (simp; done) | (simp; omega) | omega))) | ((with_reducible apply Blk.grew); rotate_left; (with_reducible assumption)) | ((with_reducible apply Blk.turned); rotate_left; (with_reducible assumption); (focus (first | (simp; done) | (simp; omega) | omega))) | fail)); (· rfl))⟩
end Go.Proofs.Ytkiciojipiakoaa
