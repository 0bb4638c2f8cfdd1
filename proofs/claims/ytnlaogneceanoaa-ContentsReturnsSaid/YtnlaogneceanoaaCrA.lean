/- Frames: what a call leaves as it was. clip: the program's and the reference's. The reference's holds and clip. Arguments opened: a slice whose elements are known by their cells; a struct of one-cell fields. Whole blocks, loaded and stored at once; an array of truth values; a list of runs in memory. of: the set of the tracks of runs. A slice of the call's own, element by element. runs: the normal form of a set. Size, Index, At, Contains: the program's. -/
import Derived.Test.YtnlaogneceanoaaRows
import Derived.WalkKit
import Derived.Laws.Tables
import Derived.Deep.QuietTactic
import Derived.WalkSpells
import Derived.WalkLawsBesides
import Derived.Handy
import Derived.Lib.Hide
import Derived.Deep.LoopGhost
import Derived.RegionTactic
import Derived.ChangeAlike
import Derived.ProofKit
import Derived.OpenShut
import Derived.Deep.Slices
import Derived.Deep.Fields
import Derived.ChangeSame
import Derived.Laws.Rows
import Derived.Deep.MidRow
import Derived.Laws.AppendOwn
import Derived.Laws.OwnMore
namespace Go.Proofs.Ytnlaogneceanoaa
theorem zA {α : Type _} {l : List α} {i : Nat} {a : α} : l.toArray.setIfInBounds i a = (l.set i a).toArray := by simp
theorem zB {α : Type _} {x : α} {xs : List α} {a : α} : (x :: xs).set 0 a = a :: xs := rfl
theorem zC {α : Type _} {x : α} {xs : List α} {n : Nat} {a : α} : (x :: xs).set (n + 1) a = x :: xs.set n a := rfl
end Go.Proofs.Ytnlaogneceanoaa
namespace Go.Proofs.Ytnlaogneceanoaa
set_option linter.unusedVariables false
set_option linter.unusedSimpArgs false
set_option linter.unusedSectionVars false
open Go.RowKit
/-- Nothing that was there has turned. -/
def Grew (w w' : World) : Prop := Below w.heap.size w w'
theorem Grew.refl (w : World) : Grew w w := Below.refl _ _
theorem Grew.trans {a b c : World} (h : Grew a b) (k : Grew b c) : Grew a c := Below.trans h (Below.mono k h.size)
theorem Grew.trans' {a b c : World} (h : Grew a b) (k : Below a.heap.size b c) : Grew a c := Below.trans h k
theorem Grew.alloc {a w : World} (h : Grew a w) (o : Obj) : Grew a (w.alloc o) := Below.alloc h h.size o
theorem Grew.drew {a w : World} (h : Grew a w) : Grew a w.drew := Below.drew h
theorem Grew.drewN {a w : World} (h : Grew a w) (n : Nat) : Grew a (w.drewN n) := ⟨h.os, h.tape, h.output, h.size, h.block⟩
theorem Grew.setCell {a w : World} (h : Grew a w) {p : Addr} (hp : a.heap.size ≤ p.block) (u : Value) : Grew a (w.setCell p u) := Below.setCell h hp u
theorem Grew.cellEq {a w : World} (h : Grew a w) : ∀ b o, b < a.heap.size → w.cell? ⟨b, o, none⟩ = a.cell? ⟨b, o, none⟩ := fun b o hb => h.cell (p := ⟨b, o, none⟩) hb
theorem Grew.frozenEq {a w : World} (h : Grew a w) : ∀ b o, b < a.heap.size → w.frozen? ⟨b, o, none⟩ = a.frozen? ⟨b, o, none⟩ := fun b o hb => h.frozen (p := ⟨b, o, none⟩) hb
/-- Of what was there only the blocks in S may have turned. -/
structure Turned (S : Nat → Prop) (w w' : World) : Prop where
  os : w'.os = w.os
  tape : w'.tape = w.tape
  output : w'.output = w.output
  size : w.heap.size ≤ w'.heap.size
  block : ∀ k, k < w.heap.size → ¬ S k → w'.heap[k]? = w.heap[k]?
theorem Turned.refl (S : Nat → Prop) (w : World) : Turned S w w := ⟨rfl, rfl, rfl, Nat.le_refl _, fun _ _ _ => rfl⟩
theorem Grew.turned {a w : World} (h : Grew a w) (S : Nat → Prop) : Turned S a w := ⟨h.os, h.tape, h.output, h.size, fun k hk _ => h.block k hk⟩
theorem Turned.trans {S : Nat → Prop} {a b c : World} (h : Turned S a b) (k : Turned S b c) : Turned S a c :=
  ⟨k.os.trans h.os, k.tape.trans h.tape, k.output.trans h.output, Nat.le_trans h.size k.size, fun i hi hs => (k.block i (Nat.lt_of_lt_of_le hi h.size) hs).trans (h.block i hi hs)⟩
theorem Turned.mono {S T : Nat → Prop} {a b : World} (h : Turned S a b) (hST : ∀ k, k < a.heap.size → S k → T k) : Turned T a b :=
  ⟨h.os, h.tape, h.output, h.size, fun i hi hs => h.block i hi (fun hS => hs (hST i hi hS))⟩
theorem Turned.grew {S : Nat → Prop} {a b : World} (h : Turned S a b) (hS : ∀ k, k < a.heap.size → ¬ S k) : Grew a b :=
  ⟨h.os, h.tape, h.output, h.size, fun i hi => h.block i hi (hS i hi)⟩
theorem Turned.next {S T : Nat → Prop} {a b c : World} (h : Turned S a b) (k : Turned T b c) (hT : ∀ i, i < a.heap.size → T i → S i) : Turned S a c :=
  ⟨k.os.trans h.os, k.tape.trans h.tape, k.output.trans h.output, Nat.le_trans h.size k.size, fun i hi hs => (k.block i (Nat.lt_of_lt_of_le hi h.size) (fun hT' => hs (hT i hi hT'))).trans (h.block i hi hs)⟩
theorem Turned.alloc {S : Nat → Prop} {a w : World} (h : Turned S a w) (o : Obj) : Turned S a (w.alloc o) := h.next (T := fun _ => False) ((Grew.refl w).alloc o |>.turned _) (fun _ _ hf => hf.elim)
theorem Turned.drew {S : Nat → Prop} {a w : World} (h : Turned S a w) : Turned S a w.drew := ⟨h.os, h.tape, h.output, h.size, h.block⟩
theorem Turned.drewN {S : Nat → Prop} {a w : World} (h : Turned S a w) (n : Nat) : Turned S a (w.drewN n) := ⟨h.os, h.tape, h.output, h.size, h.block⟩
theorem Turned.setCell {S : Nat → Prop} {a w : World} (h : Turned S a w) {p : Addr} (hp : p.block < a.heap.size → S p.block) (u : Value) : Turned S a (w.setCell p u) :=
  ⟨h.os, h.tape, h.output, by simpa [World.setCell] using h.size, fun i hi hs => (Below.heap_setCell w p u i (by rintro rfl; exact hs (hp hi))).trans (h.block i hi hs)⟩
theorem Turned.andGrew {S : Nat → Prop} {a b c : World} (h : Turned S a b) (k : Grew b c) : Turned S a c := h.next (k.turned (fun _ => False)) (fun _ _ hf => hf.elim)
theorem Turned.cellEq {S : Nat → Prop} {a w : World} (h : Turned S a w) : ∀ b o, b < a.heap.size → ¬ S b → w.cell? ⟨b, o, none⟩ = a.cell? ⟨b, o, none⟩ := fun b o hb hs => World.cell?_of_block (h.block b hb hs)
theorem Turned.frozenEq {S : Nat → Prop} {a w : World} (h : Turned S a w) : ∀ b o, b < a.heap.size → ¬ S b → w.frozen? ⟨b, o, none⟩ = a.frozen? ⟨b, o, none⟩ := fun b o hb hs => World.frozen?_of_block (h.block b hb hs)
theorem Grew.turn {S : Nat → Prop} {a b c : World} (h : Grew a b) (k : Turned S b c) (hS : ∀ i, S i → a.heap.size ≤ i) : Grew a c :=
  ((h.turned S).trans k).grew fun i hi hs => absurd (hS i hs) (by omega)
/-- A block that is known whole. -/
def Blk (w : World) (g : Nat) (t : TypeId) (cs : Array Value) : Prop := w.heap[g]? = some (.cells cs t (0, 0))
section
variable {w w' : World} {g : Nat} {t : TypeId} {cs : Array Value}
theorem Blk.lt (h : Blk w g t cs) : g < w.heap.size := by
  rcases Nat.lt_or_ge g w.heap.size with hlt | hge
  · exact hlt
  · unfold Blk at h; rw [Array.getElem?_eq_none hge] at h; cases h
theorem Blk.cell (h : Blk w g t cs) (i : Nat) : w.cell? ⟨g, i, none⟩ = cs[i]? := cell_of_row w g i cs t (0, 0) h
theorem Blk.frozen (h : Blk w g t cs) (i : Nat) : w.frozen? ⟨g, i, none⟩ = false := by
  unfold Blk at h
  simp [World.frozen?, h]
theorem Blk.new (w : World) (t : TypeId) (cs : Array Value) {n : Nat} (hn : n = w.heap.size) : Blk (w.alloc (.cells cs t)) n t cs := by subst hn; exact heap_alloc_new w _
theorem Blk.drew (h : Blk w g t cs) : Blk w.drew g t cs := h
theorem Blk.drewN (h : Blk w g t cs) (n : Nat) : Blk (w.drewN n) g t cs := h
theorem Blk.alloc (h : Blk w g t cs) (o : Obj) : Blk (w.alloc o) g t cs := (Below.heap_alloc w o g h.lt).trans h
theorem Blk.conv {ds : Array Value} (h : Blk w g t cs) (hd : cs = ds) : Blk w g t ds := hd ▸ h
theorem Blk.set_ (h : Blk w g t cs) (i : Nat) (u : Value) : Blk (w.setCell ⟨g, i, none⟩ u) g t (cs.setIfInBounds i u) := by
  unfold Blk at h ⊢
  simp [World.setCell, Array.getElem?_modify, h]
theorem Blk.far (h : Blk w g t cs) {p : Addr} (hp : g ≠ p.block) (u : Value) : Blk (w.setCell p u) g t cs := (Below.heap_setCell w p u g hp).trans h
theorem Blk.turned {S : Nat → Prop} (h : Blk w g t cs) (hb : Turned S w w') (hs : ¬ S g) : Blk w' g t cs := (hb.block g h.lt hs).trans h
theorem Blk.grew (h : Blk w g t cs) (hb : Grew w w') : Blk w' g t cs := (hb.block g h.lt).trans h
theorem Blk.ne_ {g' : Nat} {t' : TypeId} {cs' : Array Value} (h : Blk w g t cs) (h' : Blk w g' t' cs') (hne : t ≠ t') : g ≠ g' := by
  rintro rfl
  unfold Blk at h h'
  rw [h] at h'
  injection h' with h'
  injection h' with _ ht
  exact hne ht
end
theorem Grew.setRow {a w : World} (h : Grew a w) {g : Nat} (hg : a.heap.size ≤ g) (cs : Array Value) : Grew a (w.setRow g cs) :=
  h.trans' ⟨rfl, rfl, rfl, by simp [World.setRow], fun k hk => by simp only [World.setRow, Array.getElem?_modify]; rw [if_neg (by omega)]⟩
theorem Turned.setRow {S : Nat → Prop} {a w : World} (h : Turned S a w) {g : Nat} (hg : g < a.heap.size → S g) (cs : Array Value) : Turned S a (w.setRow g cs) :=
  ⟨h.os, h.tape, h.output, by simpa [World.setRow] using h.size, fun i hi hs => (by simp only [World.setRow, Array.getElem?_modify]; rw [if_neg (by rintro rfl; exact hs (hg hi))] : (w.setRow g cs).heap[i]? = w.heap[i]?).trans (h.block i hi hs)⟩
section
variable {w w' : World} {g : Nat} {t : TypeId} {cs : Array Value}
theorem Blk.setRow (h : Blk w g t cs) (ds : Array Value) : Blk (w.setRow g ds) g t ds := setRow_heap w g cs ds t (0, 0) h
theorem Blk.farRow (h : Blk w g t cs) {g' : Nat} (hp : g ≠ g') (ds : Array Value) : Blk (w.setRow g' ds) g t cs := by
  unfold Blk at h ⊢
  simp only [World.setRow, Array.getElem?_modify]
  rw [if_neg (by omega)]
  exact h
end
end Go.Proofs.Ytnlaogneceanoaa
namespace Go.Proofs.Ytnlaogneceanoaa
set_option linter.unusedVariables false
set_option linter.unusedSimpArgs false
set_option linter.unusedSectionVars false
open Go.RowKit
/-- The existing tracks of a run: where they begin, and how many. -/
def clipS (r : Int × Int) : Nat × Nat :=
  if r.2 < 1 ∨ 128 ≤ r.1 then (0, 0)
  else if r.1 < 0 then (if r.1 + r.2 ≤ 0 then (0, 0) else if r.1 + r.2 < 128 then (0, (r.1 + r.2).toNat) else (0, 128))
  else if r.2 < 128 - r.1 then (r.1.toNat, r.2.toNat) else (r.1.toNat, (128 - r.1).toNat)
theorem clipS_le (r : Int × Int) : (clipS r).1 + (clipS r).2 ≤ 128 := by
  unfold clipS; repeat' split
  all_goals (simp only []; omega)
theorem ret_agg2 {a b c d : Int} (h : a = b) (h' : c = d) : Ending.returned (.agg #[.int .i64 a, .int .i64 c]) = .returned (.agg #[.int .i64 b, .int .i64 d]) := by rw [h, h']
set_option maxRecDepth 100000 in
set_option maxHeartbeats 1000000 in
theorem clip_any (f c : Int) (w : World) (f0 : -9223372036854775808 ≤ f) (f1 : f ≤ 9223372036854775807) (c0 : -9223372036854775808 ≤ c) (c1 : c ≤ 9223372036854775807) :
    Calls Try.prog 68 #[.agg #[.int .i64 f, .int .i64 c]] w fun e w' => e = .returned (.agg #[.int .i64 ((clipS (f, c)).1 : Int), .int .i64 ((clipS (f, c)).2 : Int)]) ∧ Grew w w' := by
  unfold clipS
  simp only []
  by_cases hy : c < 1
  · rw [if_pos (Or.inl hy)]
    have hx : c < 1 ∨ 1 ≤ c := by omega
    try obtain ⟨hy1, hy⟩ := hy
    try obtain ⟨hy2, hy⟩ := hy
    try obtain ⟨hy3, hy⟩ := hy
    go_enter Try.func68, Try.ntmps68
    go_wp2
    all_goals
      go_returns
      exact ⟨ret_agg2 (by omega) (by omega), by (repeat' first | (with_reducible exact Grew.refl _) | (with_reducible assumption) | (with_reducible refine Grew.alloc ?_ _) | (with_reducible refine Grew.drew ?_) | (with_reducible refine Grew.drewN ?_ _) | (with_reducible refine Grew.setRow ?_ (by first | (simp; done) | (simp; omega) | omega) _) | (with_reducible refine Grew.setCell ?_ (by first | (simp; done) | (simp; omega) | omega) _) | ((with_reducible apply Grew.trans); rotate_left; (with_reducible assumption)) | ((with_reducible apply Grew.turn); rotate_left; (with_reducible assumption); (focus (intro i hi; first | omega | (simp at hi; omega)))) | fail)⟩
  by_cases hy : ¬ c < 1 ∧ 128 ≤ f
  · rw [if_pos (Or.inr hy.2)]
    have hx : c < 1 ∨ 1 ≤ c := by omega
    try obtain ⟨hy1, hy⟩ := hy
    try obtain ⟨hy2, hy⟩ := hy
    try obtain ⟨hy3, hy⟩ := hy
    go_enter Try.func68, Try.ntmps68
    go_wp2
    all_goals
      go_returns
      exact ⟨ret_agg2 (by omega) (by omega), by (repeat' first | (with_reducible exact Grew.refl _) | (with_reducible assumption) | (with_reducible refine Grew.alloc ?_ _) | (with_reducible refine Grew.drew ?_) | (with_reducible refine Grew.drewN ?_ _) | (with_reducible refine Grew.setRow ?_ (by first | (simp; done) | (simp; omega) | omega) _) | (with_reducible refine Grew.setCell ?_ (by first | (simp; done) | (simp; omega) | omega) _) | ((with_reducible apply Grew.trans); rotate_left; (with_reducible assumption)) | ((with_reducible apply Grew.turn); rotate_left; (with_reducible assumption); (focus (intro i hi; first | omega | (simp at hi; omega)))) | fail)⟩
  by_cases hy : ¬ c < 1 ∧ f < 0 ∧ f + c ≤ 0
  · rw [if_neg (by omega), if_pos hy.2.1, if_pos hy.2.2]
    have hx : c < 1 ∨ 1 ≤ c := by omega
    try obtain ⟨hy1, hy⟩ := hy
    try obtain ⟨hy2, hy⟩ := hy
    try obtain ⟨hy3, hy⟩ := hy
    go_enter Try.func68, Try.ntmps68
    go_wp2
    all_goals
      go_returns
      exact ⟨ret_agg2 (by omega) (by omega), by (repeat' first | (with_reducible exact Grew.refl _) | (with_reducible assumption) | (with_reducible refine Grew.alloc ?_ _) | (with_reducible refine Grew.drew ?_) | (with_reducible refine Grew.drewN ?_ _) | (with_reducible refine Grew.setRow ?_ (by first | (simp; done) | (simp; omega) | omega) _) | (with_reducible refine Grew.setCell ?_ (by first | (simp; done) | (simp; omega) | omega) _) | ((with_reducible apply Grew.trans); rotate_left; (with_reducible assumption)) | ((with_reducible apply Grew.turn); rotate_left; (with_reducible assumption); (focus (intro i hi; first | omega | (simp at hi; omega)))) | fail)⟩
  by_cases hy : ¬ c < 1 ∧ f < 0 ∧ 0 < f + c ∧ f + c < 128
  · rw [if_neg (by omega), if_pos hy.2.1, if_neg (by omega), if_pos hy.2.2.2]
    have hx : c < 1 ∨ 1 ≤ c := by omega
    try obtain ⟨hy1, hy⟩ := hy
    try obtain ⟨hy2, hy⟩ := hy
    try obtain ⟨hy3, hy⟩ := hy
    go_enter Try.func68, Try.ntmps68
    go_wp2
    all_goals
      go_returns
      exact ⟨ret_agg2 (by omega) (by omega), by (repeat' first | (with_reducible exact Grew.refl _) | (with_reducible assumption) | (with_reducible refine Grew.alloc ?_ _) | (with_reducible refine Grew.drew ?_) | (with_reducible refine Grew.drewN ?_ _) | (with_reducible refine Grew.setRow ?_ (by first | (simp; done) | (simp; omega) | omega) _) | (with_reducible refine Grew.setCell ?_ (by first | (simp; done) | (simp; omega) | omega) _) | ((with_reducible apply Grew.trans); rotate_left; (with_reducible assumption)) | ((with_reducible apply Grew.turn); rotate_left; (with_reducible assumption); (focus (intro i hi; first | omega | (simp at hi; omega)))) | fail)⟩
  by_cases hy : ¬ c < 1 ∧ f < 0 ∧ 128 ≤ f + c
  · rw [if_neg (by omega), if_pos hy.2.1, if_neg (by omega), if_neg (by omega)]
    have hx : c < 1 ∨ 1 ≤ c := by omega
    try obtain ⟨hy1, hy⟩ := hy
    try obtain ⟨hy2, hy⟩ := hy
    try obtain ⟨hy3, hy⟩ := hy
    go_enter Try.func68, Try.ntmps68
    go_wp2
    all_goals
      go_returns
      exact ⟨ret_agg2 (by omega) (by omega), by (repeat' first | (with_reducible exact Grew.refl _) | (with_reducible assumption) | (with_reducible refine Grew.alloc ?_ _) | (with_reducible refine Grew.drew ?_) | (with_reducible refine Grew.drewN ?_ _) | (with_reducible refine Grew.setRow ?_ (by first | (simp; done) | (simp; omega) | omega) _) | (with_reducible refine Grew.setCell ?_ (by first | (simp; done) | (simp; omega) | omega) _) | ((with_reducible apply Grew.trans); rotate_left; (with_reducible assumption)) | ((with_reducible apply Grew.turn); rotate_left; (with_reducible assumption); (focus (intro i hi; first | omega | (simp at hi; omega)))) | fail)⟩
  by_cases hy : ¬ c < 1 ∧ 0 ≤ f ∧ f < 128 ∧ c < 128 - f
  · rw [if_neg (by omega), if_neg (by omega), if_pos hy.2.2.2]
    have hx : c < 1 ∨ 1 ≤ c := by omega
    try obtain ⟨hy1, hy⟩ := hy
    try obtain ⟨hy2, hy⟩ := hy
    try obtain ⟨hy3, hy⟩ := hy
    go_enter Try.func68, Try.ntmps68
    go_wp2
    all_goals
      go_returns
      exact ⟨ret_agg2 (by omega) (by omega), by (repeat' first | (with_reducible exact Grew.refl _) | (with_reducible assumption) | (with_reducible refine Grew.alloc ?_ _) | (with_reducible refine Grew.drew ?_) | (with_reducible refine Grew.drewN ?_ _) | (with_reducible refine Grew.setRow ?_ (by first | (simp; done) | (simp; omega) | omega) _) | (with_reducible refine Grew.setCell ?_ (by first | (simp; done) | (simp; omega) | omega) _) | ((with_reducible apply Grew.trans); rotate_left; (with_reducible assumption)) | ((with_reducible apply Grew.turn); rotate_left; (with_reducible assumption); (focus (intro i hi; first | omega | (simp at hi; omega)))) | fail)⟩
  by_cases hy : ¬ c < 1 ∧ 0 ≤ f ∧ f < 128 ∧ 128 - f ≤ c
  · rw [if_neg (by omega), if_neg (by omega), if_neg (by omega)]
    have hx : c < 1 ∨ 1 ≤ c := by omega
    try obtain ⟨hy1, hy⟩ := hy
    try obtain ⟨hy2, hy⟩ := hy
    try obtain ⟨hy3, hy⟩ := hy
    go_enter Try.func68, Try.ntmps68
    go_wp2
    all_goals
      go_returns
      exact ⟨ret_agg2 (by omega) (by omega), by (repeat' first | (with_reducible exact Grew.refl _) | (with_reducible assumption) | (with_reducible refine Grew.alloc ?_ _) | (with_reducible refine Grew.drew ?_) | (with_reducible refine Grew.drewN ?_ _) | (with_reducible refine Grew.setRow ?_ (by first | (simp; done) | (simp; omega) | omega) _) | (with_reducible refine Grew.setCell ?_ (by first | (simp; done) | (simp; omega) | omega) _) | ((with_reducible apply Grew.trans); rotate_left; (with_reducible assumption)) | ((with_reducible apply Grew.turn); rotate_left; (with_reducible assumption); (focus (intro i hi; first | omega | (simp at hi; omega)))) | fail)⟩
  exfalso; omega
end Go.Proofs.Ytnlaogneceanoaa
namespace Go.Proofs.Ytnlaogneceanoaa
set_option linter.unusedVariables false
set_option linter.unusedSimpArgs false
set_option linter.unusedSectionVars false
open Go.RowKit
def inS (r : Nat × Nat) (t : Nat) : Bool := decide (r.1 ≤ t ∧ t < r.1 + r.2)
theorem ret_bool {a b : Bool} (h : a = b) : Ending.returned (.bool a) = .returned (.bool b) := by rw [h]
end Go.Proofs.Ytnlaogneceanoaa
namespace Go.Proofs.Ytnlaogneceanoaa
set_option linter.unusedVariables false
set_option linter.unusedSimpArgs false
set_option linter.unusedSectionVars false
open Go.ChangeShapes Go.WideShapes Go.ChangeAt Go.RowKit Go.Deep
/-- A slice in memory: element j's cells lie from 'off + j * sz' on. -/
def ListAt (w : World) (B sz : Nat) (A : Option Addr) (cells : List (List Value)) : Prop :=
  0 < cells.length → ∃ b off, A = some ⟨b, off, none⟩ ∧ b < B ∧ ∀ j cs, cells[j]? = some cs → ∀ i v, cs[i]? = some v → w.cell? ⟨b, off + j * sz + i, none⟩ = some v
theorem ListAt.keep {w w' : World} {B sz : Nat} {A : Option Addr} {cells : List (List Value)} (h : ListAt w B sz A cells) (hB : B ≤ w.heap.size) (hk : Grew w w') : ListAt w' B sz A cells :=
  fun hl => by
    obtain ⟨b, off, e, hb, hc⟩ := h hl
    exact ⟨b, off, e, hb, fun j cs hj i v hi => by rw [hk.cellEq _ _ (by omega)]; exact hc j cs hj i v hi⟩
theorem ListAt.mono {w : World} {B B' sz : Nat} {A : Option Addr} {cells : List (List Value)} (h : ListAt w B sz A cells) (hB : B ≤ B') : ListAt w B' sz A cells :=
  fun hl => by
    obtain ⟨b, off, e, hb, hc⟩ := h hl
    exact ⟨b, off, e, by omega, hc⟩
theorem cell_lt {w : World} {a : Addr} {v : Value} (h : w.cell? a = some v) : a.block < w.heap.size ∧ a.spot = none := by
  unfold World.cell? at h
  constructor
  · rcases Nat.lt_or_ge a.block w.heap.size with hlt | hge
    · exact hlt
    · rw [Array.getElem?_eq_none hge] at h; cases h
  · split at h
    · split at h
      · cases h
      · rename_i hs
        cases hsp : a.spot with
        | none => rfl
        | some x => rw [hsp] at hs; exact absurd rfl hs
    · cases h
theorem add_plain (b off n : Nat) : (⟨b, off, none⟩ : Addr).add n = ⟨b, off + n, none⟩ := by unfold Addr.add; split <;> simp_all
section
variable {H : Type} {enc : TypeId × Value → H} {P : Program} {w : World}
theorem struct_fields {fs : Array Field} {e n : Nat} {cs : List Value} {y : DataW H × List MemPlace} {base : Nat} {sp : Nat → Bool} {hd : Bool} (he : P.underlying e = some (.struct fs)) (hone : oneCellFields P fs = true) (h : DataW.trod enc P w base sp hd n e cs = some y) :
    ∀ (j : Nat) (f : Field), fs[j]? = some f → j < cs.length → ∃ v n' y', cs[j]? = some v ∧ DataW.trod enc P w base sp hd n' f.type [v] = some y' := by
  intro j f hj hjl
  obtain ⟨ys, n', hn', hy, hlen, hyl, hf⟩ := DataW.trod_struct he h
  obtain ⟨ho, hk⟩ := hone_of hone j f hj
  have hjf : j < fs.size := (Array.getElem?_eq_some_iff.1 hj).1
  have h1 := hf j f hj
  rw [ho, hk] at h1
  have hone' : (cs.drop j).take 1 = [cs[j]'hjl] := by
    rw [List.drop_eq_getElem_cons hjl]
    rfl
  rw [hone'] at h1
  have hys : ys[j]? = some (ys[j]'(by omega)) := List.getElem?_eq_getElem (by omega)
  exact ⟨_, _, _, List.getElem?_eq_getElem hjl, h1.trans hys⟩
end
end Go.Proofs.Ytnlaogneceanoaa
namespace Go.Proofs.Ytnlaogneceanoaa
set_option linter.unusedVariables false
set_option linter.unusedSimpArgs false
set_option linter.unusedSectionVars false
open Go.RowKit
theorem wpList_load_blk {P : Program} {ops : Array Oper} {rest : List Oper} {op : Oper} {a : Act} {w : World} {Q : Exit → Act → World → Prop} (hgd : op.guard = none) (ty : TypeId) (x : Operand) (ho : op.op = .load ty x)
    (g : Nat) (hx : a.eval x = .pointer (some ⟨g, 0, none⟩)) (t : TypeId) (cs : Array Value) (d : TypeDesc) (hb : Blk w g t cs)
    (hu : P.underlying ty = some d) (hd : (match d with | .struct _ | .array _ _ => true | _ => false) = true) (hi : (P.info? ty).map (·.size) = some cs.size)
    (h : wpList P ops Q rest (a.put op.dst (.agg cs)) w) : wpList P ops Q (op :: rest) a w :=
  wpList_load_row hgd ty x ho g hx t cs (0, 0) d hb hu hd hi h
theorem wpList_store_blk {P : Program} {ops : Array Oper} {rest : List Oper} {op : Oper} {a : Act} {w : World} {Q : Exit → Act → World → Prop} (hgd : op.guard = none) (ty : TypeId) (x y : Operand) (ho : op.op = .store ty x y)
    (g : Nat) (cells : Array Value) (hx : a.eval x = .pointer (some ⟨g, 0, none⟩)) (hy : a.eval y = .agg cells) (t : TypeId) (old : Array Value) (hb : Blk w g t old) (hs : old.size = cells.size)
    (hi : (P.info? ty).map (·.size) = some cells.size) (h1 : cells.all (·.oneCell') = true)
    (h : wpList P ops Q rest (a.put op.dst undef) (w.setRow g cells)) : wpList P ops Q (op :: rest) a w :=
  wpList_plain hgd fun _ hK => by
    unfold Oper.wp execOp
    simp only [ho, hx, hy, Instr.storeAt, Instr.sureAddr, Sem.run_bind, Sem.run_pure, Result.andThen_ok, run_storeVar_row w g t ty old cells hb hi hs h1]
    exact hK _ _ h
/-- An array of 128 truth values. -/
def boolArr (S : Nat → Bool) : Array Value := ((List.range 128).map fun i => Value.bool (S i)).toArray
theorem boolArr_size (S : Nat → Bool) : (boolArr S).size = 128 := by simp [boolArr]
theorem boolArr_get (S : Nat → Bool) (k : Nat) (h : k < 128) : (boolArr S)[k]? = some (.bool (S k)) := by
  simp [boolArr, List.getElem?_map, List.getElem?_range, h]
theorem boolArr_set (S : Nat → Bool) (k : Nat) (b : Bool) : (boolArr S).setIfInBounds k (.bool b) = boolArr (fun i => if i = k then b else S i) := by
  simp only [boolArr, List.setIfInBounds_toArray]
  congr 1
  apply List.ext_getElem?
  intro i
  rw [List.getElem?_set]
  by_cases h : k = i
  · subst h
    by_cases hk : k < 128
    · simp [hk]
    · simp [hk]
  · rw [if_neg h]
    by_cases hi : i < 128
    · simp [hi, Ne.symm h]
    · simp [hi]
theorem boolArr_congr {S T : Nat → Bool} (h : ∀ i, i < 128 → S i = T i) : boolArr S = boolArr T := by
  unfold boolArr
  congr 1
  apply List.map_congr_left
  intro i hi
  rw [h i (List.mem_range.1 hi)]
theorem boolArr_one (S : Nat → Bool) : (boolArr S).all (·.oneCell') = true := by
  rw [boolArr, List.all_toArray, List.all_eq_true]
  intro v hv
  obtain ⟨i, _, rfl⟩ := List.mem_map.1 hv
  rfl
/-- A run as two cells. -/
def runC (r : Int × Int) : List Value := [.int .i64 r.1, .int .i64 r.2]
def okRun (r : Int × Int) : Prop := -9223372036854775808 ≤ r.1 ∧ r.1 ≤ 9223372036854775807 ∧ -9223372036854775808 ≤ r.2 ∧ r.2 ≤ 9223372036854775807
/-- A list of runs in memory. -/
def RunsAt (w : World) (B : Nat) (A : Option Addr) (l : List (Int × Int)) : Prop := (∀ r ∈ l, okRun r) ∧ ListAt w B 2 A (l.map runC)
theorem RunsAt.keep {w w' : World} {B : Nat} {A : Option Addr} {l : List (Int × Int)} (h : RunsAt w B A l) (hB : B ≤ w.heap.size) (hk : Grew w w') : RunsAt w' B A l := ⟨h.1, h.2.keep hB hk⟩
theorem RunsAt.at_ {w : World} {B : Nat} {A : Option Addr} {l : List (Int × Int)} (h : RunsAt w B A l) {k : Nat} (hk : k < l.length) :
    ∃ b off f c, A = some ⟨b, off, none⟩ ∧ b < B ∧ l[k] = (f, c) ∧ okRun (f, c) ∧ w.cell? ⟨b, off + k * 2, none⟩ = some (.int .i64 f) ∧ w.cell? ⟨b, off + k * 2 + 1, none⟩ = some (.int .i64 c) := by
  obtain ⟨b, off, e, hb, hc⟩ := h.2 (by simp; omega)
  have hl : (l.map runC)[k]? = some (runC l[k]) := by rw [List.getElem?_map, List.getElem?_eq_getElem hk]; rfl
  have hcc := hc k _ hl
  have hok := h.1 l[k] (List.getElem_mem hk)
  rcases hv : l[k] with ⟨f, c⟩
  rw [hv] at hcc hok
  exact ⟨b, off, f, c, e, hb, rfl, hok, hcc 0 _ rfl, hcc 1 _ rfl⟩
end Go.Proofs.Ytnlaogneceanoaa
namespace Go.Proofs.Ytnlaogneceanoaa
set_option linter.unusedVariables false
set_option linter.unusedSimpArgs false
set_option linter.unusedSectionVars false
open Go.RowKit
/-- Whether a track is in one of some runs. -/
def memS (l : List (Int × Int)) (t : Nat) : Bool := l.any fun r => inS (clipS r) t
theorem memS_snoc (l : List (Int × Int)) (k : Nat) (h : k < l.length) (t : Nat) : memS (l.take (k + 1)) t = (memS (l.take k) t || inS (clipS l[k]) t) := by
  unfold memS
  rw [List.take_succ_eq_append_getElem h, List.any_append]
  simp only [List.any_cons, List.any_nil, Bool.or_false]
def seg (lo n t : Nat) : Bool := decide (lo ≤ t ∧ t < lo + n)
theorem seg_step (x : Bool) (lo j i : Nat) : (if i = lo + j then true else (x || seg lo j i)) = (x || seg lo (j + 1) i) := by
  unfold seg
  by_cases h : i = lo + j
  · subst h
    rw [if_pos rfl, show decide (lo ≤ lo + j ∧ lo + j < lo + (j + 1)) = true from by simp, Bool.or_true]
  · rw [if_neg h]
    congr 1
    rw [decide_eq_decide]
    omega
theorem zero_set (w : World) : (zeroValue 92).run Try.prog w = .ok (.agg (boolArr fun _ => false)) w := by kernel_rfl
theorem info_set : (Try.prog.info? 92).map (·.size) = some 128 := by kernel_rfl
set_option maxRecDepth 100000 in
set_option maxHeartbeats 4000000 in
theorem of_any (A : Option Addr) (c : Nat) (l : List (Int × Int)) (w : World) (B : Nat) (hB : B ≤ w.heap.size) (hl : l.length ≤ 9223372036854775807) (hr : RunsAt w B A l) :
    Calls Try.prog 55 #[.slice A l.length c] w fun e w' => e = .returned (.agg (boolArr (memS l))) ∧ Grew w w' := by
  have HR := Lib.hid hr
  clear hr
  have hz := zero_set
  go_enter Try.func55, Try.ntmps55
  go_wp2_with fail
  clear hz
  go_loopg [9] l.length (fun gk i wr => ∃ k : Nat, k ≤ l.length ∧ gk = l.length - k ∧ i = .int .i64 k ∧ Blk wr w.heap.size 92 (boolArr fun _ => false) ∧ Blk wr (w.heap.size + 1) 92 (boolArr (memS (l.take k))) ∧ Grew w wr)
  case atStart => exact ⟨0, by omega, by omega, rfl, by (apply Blk.conv; (· (repeat' first | (with_reducible assumption) | (with_reducible apply Blk.setRow) | ((with_reducible apply Blk.farRow); rotate_left; (focus (first | (simp; done) | (simp; omega) | omega))) | (with_reducible apply Blk.drew) | (with_reducible apply Blk.drewN) | (with_reducible apply Blk.set_) | (with_reducible exact Blk.new _ _ _ (by first | rfl | (simp; done) | (simp; omega))) | (with_reducible apply Blk.alloc) | ((with_reducible apply Blk.far); rotate_left; (focus (first | (simp; done) | (simp; omega) | omega))) | ((with_reducible apply Blk.grew); rotate_left; (with_reducible assumption)) | ((with_reducible apply Blk.turned); rotate_left; (with_reducible assumption); (focus (first | (simp; done) | (simp; omega) | omega))) | fail)); (· rfl)), by (apply Blk.conv; (· (repeat' first | (with_reducible assumption) | (with_reducible apply Blk.setRow) | ((with_reducible apply Blk.farRow); rotate_left; (focus (first | (simp; done) | (simp; omega) | omega))) | (with_reducible apply Blk.drew) | (with_reducible apply Blk.drewN) | (with_reducible apply Blk.set_) | (with_reducible exact Blk.new _ _ _ (by first | rfl | (simp; done) | (simp; omega))) | (with_reducible apply Blk.alloc) | ((with_reducible apply Blk.far); rotate_left; (focus (first | (simp; done) | (simp; omega) | omega))) | ((with_reducible apply Blk.grew); rotate_left; (with_reducible assumption)) | ((with_reducible apply Blk.turned); rotate_left; (with_reducible assumption); (focus (first | (simp; done) | (simp; omega) | omega))) | fail)); (· rfl)), by (repeat' first | (with_reducible exact Grew.refl _) | (with_reducible assumption) | (with_reducible refine Grew.alloc ?_ _) | (with_reducible refine Grew.drew ?_) | (with_reducible refine Grew.drewN ?_ _) | (with_reducible refine Grew.setRow ?_ (by first | (simp; done) | (simp; omega) | omega) _) | (with_reducible refine Grew.setCell ?_ (by first | (simp; done) | (simp; omega) | omega) _) | ((with_reducible apply Grew.trans); rotate_left; (with_reducible assumption)) | ((with_reducible apply Grew.turn); rotate_left; (with_reducible assumption); (focus (intro i hi; first | omega | (simp at hi; omega)))) | fail)⟩
  case round =>
    obtain ⟨k, hk, hgk, rfl, hb0, hb1, hg⟩ := hrel
    have HGK := Lib.hid hgk
    clear hgk
    have hz0 := hb1.lt
    by_cases hlt : k < l.length
    · obtain ⟨b, off, f, c, rfl, hb, hlk, ⟨f0, f1, c0, c1⟩, x0, x1⟩ := (HR.out.keep hB hg).at_ hlt
      simp only at f0 f1 c0 c1
      have hbs : b < wr.heap.size := by have := hg.size; omega
      have HL := Lib.hid hlk
      have hle := clipS_le (f, c)
      have HN := Lib.hid (fun t => (memS_snoc l k hlt t).trans (by rw [hlk]))
      clear hlk
      go_wp2_with fail
      refine (clip_any f c _ f0 f1 c0 c1).mono ?_
      rintro e w1 ⟨rfl, g1⟩
      have hb0' := (hb0.alloc _).grew g1
      have hb1' := (hb1.alloc _).grew g1
      have hce := g1.cellEq
      have hfe := g1.frozenEq
      have hz1 : wr.heap.size < w1.heap.size := by have := g1.size; simp at this; omega
      have hr1 : Blk w1 wr.heap.size 58 #[.int .i64 f, .int .i64 c] := (Blk.new wr _ _ rfl).grew g1
      have hg1 : Grew w w1 := by (repeat' first | (with_reducible exact Grew.refl _) | (with_reducible assumption) | (with_reducible refine Grew.alloc ?_ _) | (with_reducible refine Grew.drew ?_) | (with_reducible refine Grew.drewN ?_ _) | (with_reducible refine Grew.setRow ?_ (by first | (simp; done) | (simp; omega) | omega) _) | (with_reducible refine Grew.setCell ?_ (by first | (simp; done) | (simp; omega) | omega) _) | ((with_reducible apply Grew.trans); rotate_left; (with_reducible assumption)) | ((with_reducible apply Grew.turn); rotate_left; (with_reducible assumption); (focus (intro i hi; first | omega | (simp at hi; omega)))) | fail)
      generalize hcl : clipS (f, c) = r at *
      obtain ⟨lo, n⟩ := r
      simp only at hle
      go_wp2_with fail
      go_loopg [17] n (fun gk2 i wx => ∃ j : Nat, j ≤ n ∧ gk2 = n - j ∧ i = .int .i64 j ∧ Blk wx w.heap.size 92 (boolArr fun _ => false) ∧ Blk wx (w.heap.size + 1) 92 (boolArr fun t => memS (l.take k) t || seg lo j t) ∧ Blk wx wr.heap.size 58 #[.int .i64 lo, .int .i64 n] ∧ Grew w wx)
      case atStart => exact ⟨0, by omega, by omega, rfl, by (apply Blk.conv; (· (repeat' first | (with_reducible assumption) | (with_reducible apply Blk.setRow) | ((with_reducible apply Blk.farRow); rotate_left; (focus (first | (simp; done) | (simp; omega) | omega))) | (with_reducible apply Blk.drew) | (with_reducible apply Blk.drewN) | (with_reducible apply Blk.set_) | (with_reducible exact Blk.new _ _ _ (by first | rfl | (simp; done) | (simp; omega))) | (with_reducible apply Blk.alloc) | ((with_reducible apply Blk.far); rotate_left; (focus (first | (simp; done) | (simp; omega) | omega))) | ((with_reducible apply Blk.grew); rotate_left; (with_reducible assumption)) | ((with_reducible apply Blk.turned); rotate_left; (with_reducible assumption); (focus (first | (simp; done) | (simp; omega) | omega))) | fail)); (· rfl)), by (apply Blk.conv; (· (repeat' first | (with_reducible assumption) | (with_reducible apply Blk.setRow) | ((with_reducible apply Blk.farRow); rotate_left; (focus (first | (simp; done) | (simp; omega) | omega))) | (with_reducible apply Blk.drew) | (with_reducible apply Blk.drewN) | (with_reducible apply Blk.set_) | (with_reducible exact Blk.new _ _ _ (by first | rfl | (simp; done) | (simp; omega))) | (with_reducible apply Blk.alloc) | ((with_reducible apply Blk.far); rotate_left; (focus (first | (simp; done) | (simp; omega) | omega))) | ((with_reducible apply Blk.grew); rotate_left; (with_reducible assumption)) | ((with_reducible apply Blk.turned); rotate_left; (with_reducible assumption); (focus (first | (simp; done) | (simp; omega) | omega))) | fail)); (· exact boolArr_congr fun i _ => by rw [show seg lo 0 i = false from by simp [seg], Bool.or_false])), by (apply Blk.conv; (· (repeat' first | (with_reducible assumption) | (with_reducible apply Blk.setRow) | ((with_reducible apply Blk.farRow); rotate_left; (focus (first | (simp; done) | (simp; omega) | omega))) | (with_reducible apply Blk.drew) | (with_reducible apply Blk.drewN) | (with_reducible apply Blk.set_) | (with_reducible exact Blk.new _ _ _ (by first | rfl | (simp; done) | (simp; omega))) | (with_reducible apply Blk.alloc) | ((with_reducible apply Blk.far); rotate_left; (focus (first | (simp; done) | (simp; omega) | omega))) | ((with_reducible apply Blk.grew); rotate_left; (with_reducible assumption)) | ((with_reducible apply Blk.turned); rotate_left; (with_reducible assumption); (focus (first | (simp; done) | (simp; omega) | omega))) | fail)); (· rfl)), by (repeat' first | (with_reducible exact Grew.refl _) | (with_reducible assumption) | (with_reducible refine Grew.alloc ?_ _) | (with_reducible refine Grew.drew ?_) | (with_reducible refine Grew.drewN ?_ _) | (with_reducible refine Grew.setRow ?_ (by first | (simp; done) | (simp; omega) | omega) _) | (with_reducible refine Grew.setCell ?_ (by first | (simp; done) | (simp; omega) | omega) _) | ((with_reducible apply Grew.trans); rotate_left; (with_reducible assumption)) | ((with_reducible apply Grew.turn); rotate_left; (with_reducible assumption); (focus (intro i hi; first | omega | (simp at hi; omega)))) | fail)⟩
      case round =>
        obtain ⟨j, hj, hgj, rfl, hc0, hc1, hc2, hgx⟩ := hrel
        have HGJ := Lib.hid hgj
        clear hgj hb0' hb1' hr1 hce hfe
        have hx := hc1.lt
        have hx2 := hc2.lt
        have y0 := hc2.cell 0
        have y1 := hc2.cell 1
        by_cases hjn : j < n
        · have ha := hc1.cell (lo + j)
          rw [boolArr_get _ _ (by omega)] at ha
          have hf := hc1.frozen (lo + j)
          go_wp2_with fail
          go_roundg (n - (j + 1))
          case measure => rw [HGJ.out]; omega
          case rel => exact ⟨j + 1, by omega, by omega, by go_num, by (apply Blk.conv; (· (repeat' first | (with_reducible assumption) | (with_reducible apply Blk.setRow) | ((with_reducible apply Blk.farRow); rotate_left; (focus (first | (simp; done) | (simp; omega) | omega))) | (with_reducible apply Blk.drew) | (with_reducible apply Blk.drewN) | (with_reducible apply Blk.set_) | (with_reducible exact Blk.new _ _ _ (by first | rfl | (simp; done) | (simp; omega))) | (with_reducible apply Blk.alloc) | ((with_reducible apply Blk.far); rotate_left; (focus (first | (simp; done) | (simp; omega) | omega))) | ((with_reducible apply Blk.grew); rotate_left; (with_reducible assumption)) | ((with_reducible apply Blk.turned); rotate_left; (with_reducible assumption); (focus (first | (simp; done) | (simp; omega) | omega))) | fail)); (· rfl)), by (apply Blk.conv; (· (repeat' first | (with_reducible assumption) | (with_reducible apply Blk.setRow) | ((with_reducible apply Blk.farRow); rotate_left; (focus (first | (simp; done) | (simp; omega) | omega))) | (with_reducible apply Blk.drew) | (with_reducible apply Blk.drewN) | (with_reducible apply Blk.set_) | (with_reducible exact Blk.new _ _ _ (by first | rfl | (simp; done) | (simp; omega))) | (with_reducible apply Blk.alloc) | ((with_reducible apply Blk.far); rotate_left; (focus (first | (simp; done) | (simp; omega) | omega))) | ((with_reducible apply Blk.grew); rotate_left; (with_reducible assumption)) | ((with_reducible apply Blk.turned); rotate_left; (with_reducible assumption); (focus (first | (simp; done) | (simp; omega) | omega))) | fail)); (· rw [boolArr_set]; exact boolArr_congr fun i _ => seg_step _ lo j i)), by (apply Blk.conv; (· (repeat' first | (with_reducible assumption) | (with_reducible apply Blk.setRow) | ((with_reducible apply Blk.farRow); rotate_left; (focus (first | (simp; done) | (simp; omega) | omega))) | (with_reducible apply Blk.drew) | (with_reducible apply Blk.drewN) | (with_reducible apply Blk.set_) | (with_reducible exact Blk.new _ _ _ (by first | rfl | (simp; done) | (simp; omega))) | (with_reducible apply Blk.alloc) | ((with_reducible apply Blk.far); rotate_left; (focus (first | (simp; done) | (simp; omega) | omega))) | ((with_reducible apply Blk.grew); rotate_left; (with_reducible assumption)) | ((with_reducible apply Blk.turned); rotate_left; (with_reducible assumption); (focus (first | (simp; done) | (simp; omega) | omega))) | fail)); (· rfl)), by (repeat' first | (with_reducible exact Grew.refl _) | (with_reducible assumption) | (with_reducible refine Grew.alloc ?_ _) | (with_reducible refine Grew.drew ?_) | (with_reducible refine Grew.drewN ?_ _) | (with_reducible refine Grew.setRow ?_ (by first | (simp; done) | (simp; omega) | omega) _) | (with_reducible refine Grew.setCell ?_ (by first | (simp; done) | (simp; omega) | omega) _) | ((with_reducible apply Grew.trans); rotate_left; (with_reducible assumption)) | ((with_reducible apply Grew.turn); rotate_left; (with_reducible assumption); (focus (intro i hi; first | omega | (simp at hi; omega)))) | fail)⟩
        · obtain rfl : j = n := by omega
          go_wp2_with fail
          go_roundg (l.length - (k + 1))
          case measure => rw [HGK.out]; omega
          case rel => exact ⟨k + 1, by omega, by omega, by go_num, hc0, by (apply Blk.conv; (· (repeat' first | (with_reducible assumption) | (with_reducible apply Blk.setRow) | ((with_reducible apply Blk.farRow); rotate_left; (focus (first | (simp; done) | (simp; omega) | omega))) | (with_reducible apply Blk.drew) | (with_reducible apply Blk.drewN) | (with_reducible apply Blk.set_) | (with_reducible exact Blk.new _ _ _ (by first | rfl | (simp; done) | (simp; omega))) | (with_reducible apply Blk.alloc) | ((with_reducible apply Blk.far); rotate_left; (focus (first | (simp; done) | (simp; omega) | omega))) | ((with_reducible apply Blk.grew); rotate_left; (with_reducible assumption)) | ((with_reducible apply Blk.turned); rotate_left; (with_reducible assumption); (focus (first | (simp; done) | (simp; omega) | omega))) | fail)); (· exact boolArr_congr fun i _ => (HN.out i).symm)), hgx⟩
    · obtain rfl : k = l.length := by omega
      rw [List.take_length] at hb1
      clear hlt
      go_wp2_with (first | (refine wpList_load_blk rfl 92 _ rfl (w.heap.size + 1) rfl 92 (boolArr (memS l)) _ hb1 Try.underlying92 rfl (by rw [boolArr_size]; exact info_set) ?_) | (refine wpList_store_blk rfl 92 _ _ rfl w.heap.size (boolArr (memS l)) rfl rfl 92 _ hb0 (by rw [boolArr_size, boolArr_size]) (by rw [boolArr_size]; exact info_set) (boolArr_one _) ?_))
      refine bodyPost_ret (results_cell_row rfl _ _ _ 92 (boolArr (memS l)) (0, 0) _ rfl (hb0.setRow _) Try.underlying92 rfl (by rw [boolArr_size]; exact info_set)) rfl ?_
      exact ⟨rfl, by (repeat' first | (with_reducible exact Grew.refl _) | (with_reducible assumption) | (with_reducible refine Grew.alloc ?_ _) | (with_reducible refine Grew.drew ?_) | (with_reducible refine Grew.drewN ?_ _) | (with_reducible refine Grew.setRow ?_ (by first | (simp; done) | (simp; omega) | omega) _) | (with_reducible refine Grew.setCell ?_ (by first | (simp; done) | (simp; omega) | omega) _) | ((with_reducible apply Grew.trans); rotate_left; (with_reducible assumption)) | ((with_reducible apply Grew.turn); rotate_left; (with_reducible assumption); (focus (intro i hi; first | omega | (simp at hi; omega)))) | fail)⟩
end Go.Proofs.Ytnlaogneceanoaa
namespace Go.Proofs.Ytnlaogneceanoaa
set_option linter.unusedVariables false
set_option linter.unusedSimpArgs false
set_option linter.unusedSectionVars false
open Go.RowKit
/-- The call's own slice v holds the rows, each of 'sz' cells. -/
def OwnL (w : World) (base e sz : Nat) (v : Value) (rows : List (List Value)) : Prop := (∀ r ∈ rows, r.length = sz) ∧ w.ownsRow base e sz v rows.length rows.flatten
theorem flatten_len {rows : List (List Value)} {sz : Nat} (h : ∀ r ∈ rows, r.length = sz) : rows.flatten.length = rows.length * sz := by
  induction rows with
  | nil => simp
  | cons r rows ih =>
    have h1 := h r (by simp)
    have h2 := ih (fun x hx => h x (List.mem_cons_of_mem _ hx))
    simp only [List.flatten_cons, List.length_append, List.length_cons]
    rw [h1, h2, Nat.succ_mul]; omega
theorem OwnL.nil (w : World) (base e sz : Nat) : OwnL w base e sz (.slice none 0 0) [] := ⟨by simp, World.ownsRow_nil w base e sz⟩
theorem OwnL.alloc {w : World} {base e sz : Nat} {v : Value} {rows : List (List Value)} (h : OwnL w base e sz v rows) (o : Obj) : OwnL (w.alloc o) base e sz v rows := ⟨h.1, h.2.alloc o⟩
theorem OwnL.drew {w : World} {base e sz : Nat} {v : Value} {rows : List (List Value)} (h : OwnL w base e sz v rows) : OwnL w.drew base e sz v rows := h
theorem OwnL.drewN {w : World} {base e sz : Nat} {v : Value} {rows : List (List Value)} (h : OwnL w base e sz v rows) (n : Nat) : OwnL (w.drewN n) base e sz v rows := h
theorem OwnL.kept {w w' : World} {base e sz : Nat} {v : Value} {rows : List (List Value)} (h : OwnL w base e sz v rows) {S : Nat → Prop} (ht : Turned S w w') (hS : ∀ g, v.ownBlock = some g → ¬ S g) : OwnL w' base e sz v rows := by
  refine ⟨h.1, h.2.1, ?_⟩
  rcases h.2.2 with h0 | ⟨g, cap, cur, hv, hb, hh, hr⟩
  · exact .inl h0
  · refine .inr ⟨g, cap, cur, hv, hb, ?_, hr⟩
    have hlt : g < w.heap.size := Blk.lt (t := e) (cs := cur) hh
    rw [ht.block g hlt (hS g (by rw [hv]; rfl)), hh]
theorem OwnL.grew {w w' : World} {base e sz : Nat} {v : Value} {rows : List (List Value)} (h : OwnL w base e sz v rows) (ht : Grew w w') : OwnL w' base e sz v rows := h.kept (ht.turned (fun _ => False)) (fun _ _ hf => hf)
theorem OwnL.far {w : World} {base e sz : Nat} {v : Value} {rows : List (List Value)} (h : OwnL w base e sz v rows) {p : Addr} (hp : v.ownBlock ≠ some p.block) (u : Value) : OwnL (w.setCell p u) base e sz v rows :=
  h.kept (S := fun x => x = p.block) ((Turned.refl (fun x => x = p.block) w).setCell (p := p) (fun _ => rfl) u) (fun g hg he => hp (by rw [hg, he]))
theorem OwnL.farRow {w : World} {base e sz : Nat} {v : Value} {rows : List (List Value)} (h : OwnL w base e sz v rows) {g' : Nat} (hp : v.ownBlock ≠ some g') (cs : Array Value) : OwnL (w.setRow g' cs) base e sz v rows :=
  h.kept (S := fun x => x = g') ((Turned.refl (fun x => x = g') w).setRow (g := g') (fun _ => rfl) cs) (fun g hg he => hp (by rw [hg, he]))
theorem OwnL.ne_blk {w : World} {base e sz g : Nat} {t : TypeId} {cs : Array Value} {v : Value} {rows : List (List Value)} (h : OwnL w base e sz v rows) (hb : Blk w g t cs) (hne : e ≠ t) : v.ownBlock ≠ some g := by
  rcases h.2.2 with ⟨rfl, _⟩ | ⟨g', cap, cur, rfl, _, hh, _⟩
  · simp [Value.ownBlock]
  · intro he
    have : g' = g := by simpa [Value.ownBlock] using he
    subst this
    exact Blk.ne_ (t := e) hh hb hne rfl
theorem OwnL.own_ge {w : World} {base e sz g : Nat} {v : Value} {rows : List (List Value)} (h : OwnL w base e sz v rows) (hg : v.ownBlock = some g) : base ≤ g ∧ g < w.heap.size := h.2.lt g hg
theorem OwnL.empty (w : World) (base e sz : Nat) (hb : base ≤ w.heap.size) {n : Nat} (hn : n = w.heap.size) : OwnL (w.alloc (.cells #[] e)) base e sz (.slice (some ⟨n, 0, none⟩) 0 0) [] := by
  subst hn
  exact ⟨by simp, World.ownsRow_lit w #[] 0 hb (by simp) (by simp)⟩
/-- The slice's form, and the cells of its rows. -/
theorem OwnL.form {w : World} {base e sz : Nat} {v : Value} {rows : List (List Value)} (h : OwnL w base e sz v rows) :
    (v = .slice none 0 0 ∧ rows = []) ∨ ∃ g cap, v = .slice (some ⟨g, 0, none⟩) rows.length cap ∧ base ≤ g ∧ g < w.heap.size ∧ rows.length ≤ cap ∧ cap ≤ 9223372036854775807 := by
  rcases h.2.2 with ⟨h0, hn⟩ | ⟨g, cap, cur, hv, hb, hh, hn, hm, _⟩
  · exact .inl ⟨h0, List.length_eq_zero_iff.1 hn⟩
  · exact .inr ⟨g, cap, hv, hb, Blk.lt (t := e) (cs := cur) hh, hn, by unfold maxLen at hm; simpa using hm⟩
theorem flatten_at {rows : List (List Value)} {sz : Nat} (h : ∀ r ∈ rows, r.length = sz) : ∀ (j i : Nat) (r : List Value) (u : Value), rows[j]? = some r → r[i]? = some u → rows.flatten[j * sz + i]? = some u := by
  induction rows with
  | nil => intro j i r u hr; simp at hr
  | cons x rows ih =>
    intro j i r u hr hu
    have hx := h x (by simp)
    rw [List.flatten_cons]
    cases j with
    | zero =>
      simp at hr
      subst hr
      rw [Nat.zero_mul, Nat.zero_add, List.getElem?_append_left (List.getElem?_eq_some_iff.1 hu).1]
      exact hu
    | succ j =>
      simp at hr
      rw [List.getElem?_append_right (by rw [hx, Nat.succ_mul]; omega), hx, show (j + 1) * sz + i - sz = j * sz + i from by rw [Nat.succ_mul]; omega]
      exact ih (fun y hy => h y (List.mem_cons_of_mem _ hy)) j i r u hr hu
theorem OwnL.cell {w : World} {base e sz g n cap : Nat} {rows : List (List Value)} (h : OwnL w base e sz (.slice (some ⟨g, 0, none⟩) n cap) rows) {j i : Nat} {r : List Value} {u : Value} (hj : rows[j]? = some r) (hi : r[i]? = some u) : w.cell? ⟨g, j * sz + i, none⟩ = some u := by
  have := h.2.cells (g := g) rfl (j * sz + i) u (flatten_at h.1 j i r u hj hi)
  rwa [add_plain, Nat.zero_add] at this
theorem OwnL.frozen {w : World} {base e sz g n cap : Nat} {rows : List (List Value)} (h : OwnL w base e sz (.slice (some ⟨g, 0, none⟩) n cap) rows) (j : Nat) : w.frozen? ⟨g, j, none⟩ = false := by
  rcases h.2.2 with ⟨h0, _⟩ | ⟨g', cap', cur, hv, _, hh, _⟩
  · cases h0
  · injection hv with hv _ _
    injection hv with hv
    injection hv with hv _ _
    subst hv
    exact Blk.frozen (t := e) (cs := cur) hh j
/-- The call's own slice, read as an argument. -/
theorem OwnL.listAt {w : World} {base e sz : Nat} {v : Value} {rows : List (List Value)} (h : OwnL w base e sz v rows) : ∃ A c, v = .slice A rows.length c ∧ rows.length ≤ c ∧ c ≤ 9223372036854775807 ∧ ListAt w w.heap.size sz A rows := by
  rcases h.form with ⟨rfl, rfl⟩ | ⟨g, cap, rfl, hb, hlt, h1, h2⟩
  · exact ⟨none, 0, rfl, by simp, by simp, fun h => absurd h (by simp)⟩
  · refine ⟨_, cap, rfl, h1, h2, fun _ => ⟨g, 0, rfl, hlt, fun j cs hj i u hi => ?_⟩⟩
    rw [Nat.zero_add]
    exact h.cell hj hi
theorem set_flatten {rows : List (List Value)} {sz : Nat} (h : ∀ r ∈ rows, r.length = sz) : ∀ (j i : Nat) (r : List Value) (u : Value), rows[j]? = some r → i < sz → rows.flatten.set (j * sz + i) u = (rows.set j (r.set i u)).flatten := by
  induction rows with
  | nil => intro j i r u hr; simp at hr
  | cons x rows ih =>
    intro j i r u hr hi
    have hx := h x (by simp)
    cases j with
    | zero =>
      simp at hr
      subst hr
      rw [Nat.zero_mul, Nat.zero_add, List.set_cons_zero, List.flatten_cons, List.flatten_cons, List.set_append_left _ _ (by omega)]
    | succ j =>
      simp at hr
      rw [List.set_cons_succ, List.flatten_cons, List.flatten_cons, List.set_append_right _ _ (by rw [hx, Nat.succ_mul]; omega), hx, show (j + 1) * sz + i - sz = j * sz + i from by rw [Nat.succ_mul]; omega]
      rw [ih (fun y hy => h y (List.mem_cons_of_mem _ hy)) j i r u hr hi]
theorem OwnL.set_ {w : World} {base e sz g n cap : Nat} {rows : List (List Value)} (h : OwnL w base e sz (.slice (some ⟨g, 0, none⟩) n cap) rows) {j i o : Nat} {r : List Value} (hj : rows[j]? = some r) (hi : i < sz) (ho : o = j * sz + i) (u : Value) :
    OwnL (w.setCell ⟨g, o, none⟩ u) base e sz (.slice (some ⟨g, 0, none⟩) n cap) (rows.set j (r.set i u)) := by
  subst ho
  refine ⟨fun x hx => ?_, ?_⟩
  · rcases List.mem_or_eq_of_mem_set hx with hx | rfl
    · exact h.1 x hx
    · rw [List.length_set]; exact h.1 r (List.mem_of_getElem? hj)
  · have hn : rows.length = n := by
      rcases h.2.2 with ⟨h0, _⟩ | ⟨g', cap', cur, hv, _⟩
      · cases h0
      · injection hv with _ hv _; exact hv.symm
    have h2 := h.2
    rw [hn] at h2
    have := h2.stored (j * sz + i) u
    rw [set_flatten h.1 j i r u hj hi] at this
    rw [List.length_set, hn]
    exact this.1
/-- What an append may have turned: the row itself, if it is the call's own. -/
theorem Grew.own {a w w' : World} {base : Nat} {row : Option Nat} (h : Grew a w) (hg : w.grownBy w' row) (hr : ∀ k, row = some k → base ≤ k) (hb : a.heap.size ≤ base) : Grew a w' :=
  h.trans' ⟨hg.os, hg.tape, hg.output, hg.size, fun k hk => hg.block k (Nat.lt_of_lt_of_le hk h.size) (fun e => by have := hr k e.symm; omega)⟩
theorem Blk.own {w w' : World} {g : Nat} {t : TypeId} {cs : Array Value} {row : Option Nat} (h : Blk w g t cs) (hg : w.grownBy w' row) (hne : row ≠ some g) : Blk w' g t cs := (hg.block g h.lt (fun e => hne e.symm)).trans h
section
variable {P : Program}
/-- 'v = append(v, row)': the element lies in a block of its own just made. -/
theorem wpList_push {W' : World} {ops : Array Oper} {rest : List Oper} {o : Oper} {a : Act} {Q : Exit → Act → World → Prop} (hgd : o.guard = none) (s x : Operand) (t : TypeId)
    (ho : o.op = .call { callee := .builtin .append, args := #[s, x], argTypes := #[t, t] })
    (base e size bytes : Nat) (z : Value) (ht : P.underlying t = some (.slice e)) (hi : (P.info? e).map (fun i => (i.zero, i.size, i.bytes)) = some (some z, size, bytes)) (hzs : z.cells.size = size) (hsz : 0 < size)
    (W : World) (v : Value) (rows : List (List Value)) (row : List Value) (hW : W' = W.alloc (.cells row.toArray e)) (hrow : row.length = size) (hs : a.eval s = v) (hown : OwnL W base e size v rows) {gN : Nat} (hgN : gN = W.heap.size) (hx : a.eval x = .slice (some ⟨gN, 0, none⟩) 1 1) (h1 : row.all (·.oneCell') = true)
    (hlen : (rows.length + 1) * bytes ≤ 140737488355328) (h63 : rows.length + 1 ≤ 9223372036854775807) (hbase : base ≤ W.heap.size)
    (h : ∀ v' w', OwnL w' base e size v' (rows ++ [row]) → (∀ b, Grew b W → b.heap.size ≤ base → Grew b w') → (∀ g t' cs, Blk W g t' cs → v.ownBlock ≠ some g → Blk w' g t' cs) → W.heap.size < w'.heap.size → wpList P ops Q rest (a.put o.dst v') w') :
    wpList P ops Q (o :: rest) a W' := by
  subst hW
  subst hgN
  obtain ⟨i, hi', hz0, hz1, hz2⟩ : ∃ i, P.info? e = some i ∧ i.zero = some z ∧ i.size = size ∧ i.bytes = bytes := by
    cases hq : P.info? e with
    | none => rw [hq] at hi; cases hi
    | some i => rw [hq] at hi; simp at hi; exact ⟨i, rfl, hi.1, hi.2.1, hi.2.2⟩
  refine wpList_append_own (w := W.alloc (.cells row.toArray e)) hgd s x t ho base e i z size bytes ht hi' hz0 hz1 hz2 hzs hsz v rows.length rows.flatten hs (hown.2.alloc _) ⟨W.heap.size, 0, none⟩ 1 1 row hx (by omega)
    (fun j u hj => by rw [add_plain, Nat.zero_add, cell_of_row _ _ _ _ _ _ (heap_alloc_new W _)]; simpa using hj) (fun u hu => List.all_eq_true.1 h1 u hu) (by unfold maxLen; omega) hlen (by simp; omega) ?_
  intro v' w' hown' hg _
  have hr : ∀ k, v.ownBlock = some k → base ≤ k := fun k hk => (hown.2.lt k hk).1
  refine h v' w' ⟨?_, ?_⟩ (fun b hb hbb => (hb.alloc _).own hg hr hbb) (fun g t' cs hb hne => (hb.alloc _).own hg hne) (by have := hg.size; simp at this; omega)
  · intro r hr'
    rcases List.mem_append.1 hr' with hr' | hr'
    · exact hown.1 r hr'
    · rw [List.mem_singleton.1 hr']; exact hrow
  · rw [List.flatten_append, List.length_append]
    simpa using hown'
end
end Go.Proofs.Ytnlaogneceanoaa
namespace Go.Proofs.Ytnlaogneceanoaa
set_option linter.unusedVariables false
set_option linter.unusedSimpArgs false
set_option linter.unusedSectionVars false
open Go.RowKit
/-- The last run, one track longer. -/
def bump (l : List (Nat × Nat)) : List (Nat × Nat) := l.set (l.length - 1) ((l.getD (l.length - 1) (0, 0)).1, (l.getD (l.length - 1) (0, 0)).2 + 1)
theorem getD_at (l : List (Nat × Nat)) (j : Nat) (h : j < l.length) : l.getD j (0, 0) = l[j] := by simp [List.getD, h]
def stepN (S : Nat → Bool) (l : List (Nat × Nat)) (i : Nat) : List (Nat × Nat) := if S i = false then l else if 0 < i ∧ S (i - 1) = true then bump l else l ++ [(i, 1)]
def normTo (S : Nat → Bool) : Nat → List (Nat × Nat)
  | 0 => []
  | k + 1 => stepN S (normTo S k) k
/-- The normal form of a set of tracks. -/
def normS (S : Nat → Bool) : List (Nat × Nat) := normTo S 128
theorem bump_len (l : List (Nat × Nat)) : (bump l).length = l.length := by simp [bump]
theorem stepN_len (S : Nat → Bool) (l : List (Nat × Nat)) (i : Nat) : (stepN S l i).length ≤ l.length + 1 := by
  unfold stepN; repeat' split
  · omega
  · rw [bump_len]; omega
  · simp
theorem normTo_len (S : Nat → Bool) (k : Nat) : (normTo S k).length ≤ k := by
  induction k with
  | zero => simp [normTo]
  | succ k ih => have := stepN_len S (normTo S k) k; rw [normTo]; omega
theorem normTo_pos (S : Nat → Bool) (k : Nat) (hk : 0 < k) (h : S (k - 1) = true) : 0 < (normTo S k).length := by
  obtain ⟨j, rfl⟩ : ∃ j, k = j + 1 := ⟨k - 1, by omega⟩
  have h' : S j = true := h
  rw [normTo, stepN, if_neg (by simp [h'])]
  split
  · rename_i h2
    have := normTo_pos S j h2.1 h2.2
    rw [bump_len]; exact this
  · simp
theorem bump_bd (l : List (Nat × Nat)) (k : Nat) (h : ∀ r ∈ l, r.1 + r.2 ≤ k) : ∀ r ∈ bump l, r.1 + r.2 ≤ k + 1 := by
  intro r hr
  rcases List.mem_or_eq_of_mem_set hr with hr | rfl
  · have := h r hr; omega
  · simp only []
    by_cases hl : l.length - 1 < l.length
    · have := h (l.getD (l.length - 1) (0, 0)) (by rw [getD_at l _ hl]; exact List.getElem_mem hl)
      omega
    · have : l = [] := List.length_eq_zero_iff.1 (by omega)
      subst this; simp
theorem normTo_bd (S : Nat → Bool) (k : Nat) : ∀ r ∈ normTo S k, r.1 + r.2 ≤ k := by
  induction k with
  | zero => intro r hr; simp [normTo] at hr
  | succ k ih =>
    intro r hr
    rw [normTo, stepN] at hr
    split at hr
    · have := ih r hr; omega
    · split at hr
      · exact bump_bd _ k ih r hr
      · rcases List.mem_append.1 hr with hr | hr
        · have := ih r hr; omega
        · rw [List.mem_singleton.1 hr]; simp
def rowN (r : Nat × Nat) : List Value := [.int .i64 (r.1 : Int), .int .i64 (r.2 : Int)]
theorem info_run : (Try.prog.info? 58).map (fun i => (i.zero, i.size, i.bytes)) = some (some (.agg #[.int .i64 0, .int .i64 0]), 2, 16) := by kernel_rfl
theorem rows_set (l : List (Nat × Nat)) (j : Nat) (a b b' : Nat) (h : l[j]? = some (a, b)) : (l.map rowN).set j ((rowN (a, b)).set 1 (.int .i64 (b' : Int))) = (l.set j (a, b')).map rowN := by
  rw [List.map_set]; rfl
set_option maxRecDepth 100000 in
set_option maxHeartbeats 4000000 in
theorem runs_any (g : Nat) (S : Nat → Bool) (w : World) (hs : Blk w g 92 (boolArr S)) :
    Calls Try.prog 56 #[.pointer (some ⟨g, 0, none⟩)] w fun e w' => ∃ v, e = .returned v ∧ OwnL w' w.heap.size 58 2 v ((normS S).map rowN) ∧ Grew w w' := by
  have hgl := hs.lt
  go_enter Try.func56, Try.ntmps56
  go_wp2_with fail
  go_loopg [3, 7] 128 (fun gk v i wr => ∃ k : Nat, k ≤ 128 ∧ gk = 128 - k ∧ i = .int .i64 k ∧ OwnL wr w.heap.size 58 2 v ((normTo S k).map rowN) ∧ Grew w wr)
  case atStart => exact ⟨0, by omega, by omega, rfl, OwnL.nil _ _ _ _, by (repeat' first | (with_reducible exact Grew.refl _) | (with_reducible assumption) | (with_reducible refine Grew.alloc ?_ _) | (with_reducible refine Grew.drew ?_) | (with_reducible refine Grew.drewN ?_ _) | (with_reducible refine Grew.setRow ?_ (by first | (simp; done) | (simp; omega) | omega) _) | (with_reducible refine Grew.setCell ?_ (by first | (simp; done) | (simp; omega) | omega) _) | ((with_reducible apply Grew.trans); rotate_left; (with_reducible assumption)) | ((with_reducible apply Grew.turn); rotate_left; (with_reducible assumption); (focus (intro i hi; first | omega | (simp at hi; omega)))) | fail)⟩
  case round =>
    obtain ⟨k, hk, hgk, rfl, hown, hg⟩ := hrel
    have HGK := Lib.hid hgk
    clear hgk
    have hs' := hs.grew hg
    by_cases hlt : k < 128
    · have c0 := hs'.cell k
      rw [boolArr_get _ _ hlt] at c0
      have hstep : normTo S (k + 1) = stepN S (normTo S k) k := rfl
      have hlen := normTo_len S k
      have hbd := normTo_bd S k
      by_cases hS : S k = true
      · rw [stepN, if_neg (by simp [hS])] at hstep
        rw [hS] at c0
        by_cases hp : 0 < k ∧ S (k - 1) = true
        · rw [if_pos hp] at hstep
          have c1 := hs'.cell (k - 1)
          rw [boolArr_get _ _ (by omega), hp.2] at c1
          have hpos := normTo_pos S k hp.1 hp.2
          have HS := Lib.hid hstep
          have HB := Lib.hid hbd
          have hk0 := hp.1
          clear hstep hbd hS hp
          rcases hown.form with ⟨_, h0⟩ | ⟨gv, cap, hv, hbg, hgv, hc1, hc2⟩
          · exfalso; have := congrArg List.length h0; simp at this; simp [this] at hpos
          · subst hv
            have hlast : (normTo S k)[(normTo S k).length - 1]? = some ((normTo S k).getD ((normTo S k).length - 1) (0, 0)) := by
              rw [getD_at _ _ (by omega)]; exact List.getElem?_eq_getElem (by omega)
            have hin := HB.out _ (List.mem_of_getElem? hlast)
            generalize hld : (normTo S k).getD ((normTo S k).length - 1) (0, 0) = ld at *
            obtain ⟨la, lb⟩ := ld
            have hrow : ((normTo S k).map rowN)[(normTo S k).length - 1]? = some (rowN (la, lb)) := by rw [List.getElem?_map, hlast]; rfl
            have d1 := hown.cell (i := 1) hrow rfl
            have d0 := hown.frozen (((normTo S k).length - 1) * 2 + 1)
            rw [List.length_map] at *
            have hne : gv ≠ g := by intro e; exact absurd (hown.ne_blk hs' (by decide)) (by simp [Value.ownBlock, e])
            have hsetown := hown.set_ (i := 1) (o := ((normTo S k).length - 1) * 2 + 1) hrow (by omega) rfl (.int .i64 ((lb + 1 : Nat) : Int))
            rw [rows_set _ _ la lb (lb + 1) hlast] at hsetown
            
            have HL := Lib.hid hld
            have HLL := Lib.hid hlast
            have HR := Lib.hid hrow
            simp only at hin
            have HN := Lib.hid hsetown
            clear hsetown hld hlast hrow
            generalize hq : (normTo S k).length = q at *
            have hq1 : ((q : Int) - 1) = ((q - 1 : Nat) : Int) := by omega
            go_wp2_with fail
            go_region
            go_wp2_with fail
            go_roundg (128 - (k + 1))
            case measure => rw [HGK.out]; omega
            case rel => exact ⟨k + 1, by omega, by omega, by go_num, by rw [HS.out, bump, hq, HL.out]; exact HN.out.drew, by (repeat' first | (with_reducible exact Grew.refl _) | (with_reducible assumption) | (with_reducible refine Grew.alloc ?_ _) | (with_reducible refine Grew.drew ?_) | (with_reducible refine Grew.drewN ?_ _) | (with_reducible refine Grew.setRow ?_ (by first | (simp; done) | (simp; omega) | omega) _) | (with_reducible refine Grew.setCell ?_ (by first | (simp; done) | (simp; omega) | omega) _) | ((with_reducible apply Grew.trans); rotate_left; (with_reducible assumption)) | ((with_reducible apply Grew.turn); rotate_left; (with_reducible assumption); (focus (intro i hi; first | omega | (simp at hi; omega)))) | fail)⟩
        · rw [if_neg hp] at hstep
          have HS := Lib.hid hstep
          have HB := Lib.hid hbd
          have hp' : k = 0 ∨ S (k - 1) = false := by
            by_cases h : k = 0
            · exact .inl h
            · right; cases h2 : S (k - 1) with
              | false => rfl
              | true => exact absurd ⟨by omega, h2⟩ hp
          clear hstep hbd hS hp
          have hx : ∃ d : Value, 0 < k → wr.cell? ⟨g, k - 1, none⟩ = some (.bool false) := ⟨.bool false, fun h => by
            have c1 := hs'.cell (k - 1)
            rw [boolArr_get _ _ (by omega)] at c1
            rcases hp' with h' | h'
            · omega
            · rw [h'] at c1; exact c1⟩
          obtain ⟨_, hx⟩ := hx
          by_cases hk0 : k = 0
          · subst hk0
            clear hp' hx
            go_wp2_with fail
            go_region
            go_wp2_with (at_builtin; refine wpList_push rfl _ _ 22 rfl w.heap.size 58 2 16 _ Try.underlying22 info_run rfl (by decide) wr.drew _ ((normTo S 0).map rowN) (rowN (0, 1)) (by rfl) rfl rfl hown.drew (by first | rfl | (simp; done)) rfl rfl (by rw [List.length_map]; omega) (by rw [List.length_map]; omega) hg.size ?_; intro v' w1 hown1 hgr hbk hsz)
            go_roundg (128 - (0 + 1))
            case measure => rw [HGK.out]; omega
            case rel => exact ⟨0 + 1, by omega, by omega, by go_num, by rw [HS.out, List.map_append]; exact hown1, hgr _ hg.drew (Nat.le_refl _)⟩
          · have hx' := hx (by omega)
            clear hp' hx
            go_wp2_with fail
            go_region
            go_wp2_with (at_builtin; refine wpList_push rfl _ _ 22 rfl w.heap.size 58 2 16 _ Try.underlying22 info_run rfl (by decide) wr.drew _ ((normTo S k).map rowN) (rowN (k, 1)) (by rfl) rfl rfl hown.drew (by first | rfl | (simp; done)) rfl rfl (by rw [List.length_map]; omega) (by rw [List.length_map]; omega) hg.size ?_; intro v' w1 hown1 hgr hbk hsz)
            go_roundg (128 - (k + 1))
            case measure => rw [HGK.out]; omega
            case rel => exact ⟨k + 1, by omega, by omega, by go_num, by rw [HS.out, List.map_append]; exact hown1, hgr _ hg.drew (Nat.le_refl _)⟩
      · have hS' : S k = false := by simpa using hS
        rw [stepN, if_pos hS'] at hstep
        rw [hS'] at c0
        have HS := Lib.hid hstep
        have HB := Lib.hid hbd
        clear hstep hbd hS hS'
        go_wp2_with fail
        go_region
        go_wp2_with fail
        go_roundg (128 - (k + 1))
        case measure => rw [HGK.out]; omega
        case rel => exact ⟨k + 1, by omega, by omega, by go_num, by rw [HS.out]; exact hown.drew, by (repeat' first | (with_reducible exact Grew.refl _) | (with_reducible assumption) | (with_reducible refine Grew.alloc ?_ _) | (with_reducible refine Grew.drew ?_) | (with_reducible refine Grew.drewN ?_ _) | (with_reducible refine Grew.setRow ?_ (by first | (simp; done) | (simp; omega) | omega) _) | (with_reducible refine Grew.setCell ?_ (by first | (simp; done) | (simp; omega) | omega) _) | ((with_reducible apply Grew.trans); rotate_left; (with_reducible assumption)) | ((with_reducible apply Grew.turn); rotate_left; (with_reducible assumption); (focus (intro i hi; first | omega | (simp at hi; omega)))) | fail)⟩
    · obtain rfl : k = 128 := by omega
      go_wp2_with fail
      go_ret
      exact ⟨_, rfl, hown, hg⟩
end Go.Proofs.Ytnlaogneceanoaa
namespace Go.Proofs.Ytnlaogneceanoaa
set_option linter.unusedVariables false
set_option linter.unusedSimpArgs false
set_option linter.unusedSectionVars false
open Go.RowKit
def sizeS (l : List (Int × Int)) : Nat := (l.map fun r => (clipS r).2).sum
theorem sizeS_snoc (l : List (Int × Int)) (k : Nat) (h : k < l.length) : sizeS (l.take (k + 1)) = sizeS (l.take k) + (clipS l[k]).2 := by
  unfold sizeS; rw [List.take_succ_eq_append_getElem h, List.map_append, List.sum_append]; simp
theorem sizeS_le (l : List (Int × Int)) : sizeS l ≤ 128 * l.length := by
  induction l with
  | nil => simp [sizeS]
  | cons r l ih =>
    have := clipS_le r
    unfold sizeS at ih ⊢
    simp only [List.map_cons, List.sum_cons, List.length_cons]
    omega
/-- The track at an index. -/
def atS : List (Int × Int) → Int → Int × Bool
  | [], _ => (0, false)
  | r :: l, i => if i < ((clipS r).2 : Int) then ((clipS r).1 + i, true) else atS l (i - (clipS r).2)
theorem drop_cons (l : List (Int × Int)) (k : Nat) (h : k < l.length) : l.drop k = l[k] :: l.drop (k + 1) := List.drop_eq_getElem_cons h
theorem ret_ib {a b : Int} {c d : Bool} (h : a = b) (h' : c = d) : Ending.returned (.tuple #[.int .i64 a, .bool c]) = .returned (.tuple #[.int .i64 b, .bool d]) := by rw [h, h']
theorem ret_int {k : IntKind} {a b : Int} (h : a = b) : Ending.returned (.int k a) = .returned (.int k b) := by rw [h]
theorem field_cnt (W : World) (a b : Int) : (Instr.field 58 (.agg #[.int .i64 a, .int .i64 b]) 1).run Try.prog W = .ok (.int .i64 b) W := by kernel_rfl
section
variable (A : Option Addr) (c : Nat) (l : List (Int × Int)) (w : World) (B : Nat) (hB : B ≤ w.heap.size) (hl : l.length ≤ 1000000) (hr : RunsAt w B A l)
include hB hl hr
set_option maxRecDepth 100000 in
set_option maxHeartbeats 4000000 in
theorem size_any : Calls Try.prog 33 #[.slice A l.length c] w fun e w' => e = .returned (.int .i64 (sizeS l)) ∧ Grew w w' := by
  have HR := Lib.hid hr
  clear hr
  have hfd := field_cnt
  go_enter Try.func33, Try.ntmps33
  go_wp2_with fail
  go_loopg [3, 8] l.length (fun gk n i wr => ∃ k : Nat, k ≤ l.length ∧ gk = l.length - k ∧ i = .int .i64 k ∧ n = .int .i64 (sizeS (l.take k)) ∧ Grew w wr)
  case atStart => exact ⟨0, by omega, by omega, rfl, rfl, by (repeat' first | (with_reducible exact Grew.refl _) | (with_reducible assumption) | (with_reducible refine Grew.alloc ?_ _) | (with_reducible refine Grew.drew ?_) | (with_reducible refine Grew.drewN ?_ _) | (with_reducible refine Grew.setRow ?_ (by first | (simp; done) | (simp; omega) | omega) _) | (with_reducible refine Grew.setCell ?_ (by first | (simp; done) | (simp; omega) | omega) _) | ((with_reducible apply Grew.trans); rotate_left; (with_reducible assumption)) | ((with_reducible apply Grew.turn); rotate_left; (with_reducible assumption); (focus (intro i hi; first | omega | (simp at hi; omega)))) | fail)⟩
  case round =>
    obtain ⟨k, hk, hgk, rfl, rfl, hg⟩ := hrel
    have HGK := Lib.hid hgk
    clear hgk
    have hsz := sizeS_le (l.take k)
    have hsl : (l.take k).length ≤ 1000000 := Nat.le_trans (List.length_take_le _ _) (by omega)
    by_cases hlt : k < l.length
    · obtain ⟨b, off, f, c, rfl, hb, hlk, ⟨f0, f1, c0, c1⟩, x0, x1⟩ := (HR.out.keep hB hg).at_ hlt
      simp only at f0 f1 c0 c1
      have hbs : b < wr.heap.size := by have := hg.size; omega
      have hws := hg.size
      have hle := clipS_le (f, c)
      have HN := Lib.hid ((sizeS_snoc l k hlt).trans (by rw [hlk]))
      clear hlk
      go_wp2_with fail
      refine (clip_any f c _ f0 f1 c0 c1).mono ?_
      rintro e w1 ⟨rfl, g1⟩
      go_wp2_with fail
      go_roundg (l.length - (k + 1))
      case measure => rw [HGK.out]; omega
      case rel => exact ⟨k + 1, by omega, by omega, by go_num, by rw [HN.out]; go_num, by (repeat' first | (with_reducible exact Grew.refl _) | (with_reducible assumption) | (with_reducible refine Grew.alloc ?_ _) | (with_reducible refine Grew.drew ?_) | (with_reducible refine Grew.drewN ?_ _) | (with_reducible refine Grew.setRow ?_ (by first | (simp; done) | (simp; omega) | omega) _) | (with_reducible refine Grew.setCell ?_ (by first | (simp; done) | (simp; omega) | omega) _) | ((with_reducible apply Grew.trans); rotate_left; (with_reducible assumption)) | ((with_reducible apply Grew.turn); rotate_left; (with_reducible assumption); (focus (intro i hi; first | omega | (simp at hi; omega)))) | fail)⟩
    · obtain rfl : k = l.length := by omega
      go_wp2_with fail
      go_ret
      exact ⟨ret_int (by rw [List.take_length]), by (repeat' first | (with_reducible exact Grew.refl _) | (with_reducible assumption) | (with_reducible refine Grew.alloc ?_ _) | (with_reducible refine Grew.drew ?_) | (with_reducible refine Grew.drewN ?_ _) | (with_reducible refine Grew.setRow ?_ (by first | (simp; done) | (simp; omega) | omega) _) | (with_reducible refine Grew.setCell ?_ (by first | (simp; done) | (simp; omega) | omega) _) | ((with_reducible apply Grew.trans); rotate_left; (with_reducible assumption)) | ((with_reducible apply Grew.turn); rotate_left; (with_reducible assumption); (focus (intro i hi; first | omega | (simp at hi; omega)))) | fail)⟩
set_option maxRecDepth 100000 in
set_option maxHeartbeats 4000000 in
theorem at_any (t : Int) (t0 : -9223372036854775808 ≤ t) (t1 : t ≤ 9223372036854775807) :
    Calls Try.prog 31 #[.slice A l.length c, .int .i64 t] w fun e w' => e = .returned (.tuple #[.int .i64 (if t < 0 then (0, false) else atS l t).1, .bool (if t < 0 then (0, false) else atS l t).2]) ∧ Grew w w' := by
  have HR := Lib.hid hr
  clear hr
  by_cases hneg : t < 0
  · rw [if_pos hneg]
    go_enter Try.func31, Try.ntmps31
    go_wp2_with fail
    go_ret2
    exact ⟨rfl, by (repeat' first | (with_reducible exact Grew.refl _) | (with_reducible assumption) | (with_reducible refine Grew.alloc ?_ _) | (with_reducible refine Grew.drew ?_) | (with_reducible refine Grew.drewN ?_ _) | (with_reducible refine Grew.setRow ?_ (by first | (simp; done) | (simp; omega) | omega) _) | (with_reducible refine Grew.setCell ?_ (by first | (simp; done) | (simp; omega) | omega) _) | ((with_reducible apply Grew.trans); rotate_left; (with_reducible assumption)) | ((with_reducible apply Grew.turn); rotate_left; (with_reducible assumption); (focus (intro i hi; first | omega | (simp at hi; omega)))) | fail)⟩
  · rw [if_neg hneg]
    go_enter Try.func31, Try.ntmps31
    go_wp2_with fail
    go_loopg [1, 12] l.length (fun gk m i wr => ∃ (k : Nat) (n : Int), k ≤ l.length ∧ gk = l.length - k ∧ i = .int .i64 k ∧ m = .int .i64 n ∧ 0 ≤ n ∧ n ≤ 9223372036854775807 ∧ atS l t = atS (l.drop k) n ∧ Grew w wr)
    case atStart => exact ⟨0, t, by omega, by omega, rfl, rfl, by omega, by omega, rfl, by (repeat' first | (with_reducible exact Grew.refl _) | (with_reducible assumption) | (with_reducible refine Grew.alloc ?_ _) | (with_reducible refine Grew.drew ?_) | (with_reducible refine Grew.drewN ?_ _) | (with_reducible refine Grew.setRow ?_ (by first | (simp; done) | (simp; omega) | omega) _) | (with_reducible refine Grew.setCell ?_ (by first | (simp; done) | (simp; omega) | omega) _) | ((with_reducible apply Grew.trans); rotate_left; (with_reducible assumption)) | ((with_reducible apply Grew.turn); rotate_left; (with_reducible assumption); (focus (intro i hi; first | omega | (simp at hi; omega)))) | fail)⟩
    case round =>
      obtain ⟨k, n, hk, hgk, rfl, rfl, hn0, hn1, hix, hg⟩ := hrel
      have HGK := Lib.hid hgk
      clear hgk
      by_cases hlt : k < l.length
      · obtain ⟨b, off, f, c, rfl, hb, hlk, ⟨f0, f1, c0, c1⟩, x0, x1⟩ := (HR.out.keep hB hg).at_ hlt
        simp only at f0 f1 c0 c1
        have hbs : b < wr.heap.size := by have := hg.size; omega
        have hws := hg.size
        have hle := clipS_le (f, c)
        rw [drop_cons l k hlt, hlk, atS] at hix
        have HX := Lib.hid hix
        clear hlk hix
        have HC := fun W => Lib.hid (clip_any f c W f0 f1 c0 c1)
        generalize clipS (f, c) = r at *
        obtain ⟨lo, nn⟩ := r
        simp only at hle
        go_wp2_with fail
        refine (HC _).out.mono ?_
        rintro e w1 ⟨rfl, g1⟩
        have hce := g1.cellEq
        have hfe := g1.frozenEq
        have hz1 : wr.heap.size < w1.heap.size := by have := g1.size; simp at this; omega
        by_cases hin : n < (nn : Int)
        · have HF := Lib.hid (HX.out.trans (if_pos hin))
          go_wp2_with fail
          go_ret2
          exact ⟨ret_ib (by rw [HF.out]) (by rw [HF.out]), by (repeat' first | (with_reducible exact Grew.refl _) | (with_reducible assumption) | (with_reducible refine Grew.alloc ?_ _) | (with_reducible refine Grew.drew ?_) | (with_reducible refine Grew.drewN ?_ _) | (with_reducible refine Grew.setRow ?_ (by first | (simp; done) | (simp; omega) | omega) _) | (with_reducible refine Grew.setCell ?_ (by first | (simp; done) | (simp; omega) | omega) _) | ((with_reducible apply Grew.trans); rotate_left; (with_reducible assumption)) | ((with_reducible apply Grew.turn); rotate_left; (with_reducible assumption); (focus (intro i hi; first | omega | (simp at hi; omega)))) | fail)⟩
        · have HF := Lib.hid (HX.out.trans (if_neg hin))
          go_wp2_with fail
          go_roundg (l.length - (k + 1))
          case measure => rw [HGK.out]; omega
          case rel => exact ⟨k + 1, n - nn, by omega, by omega, by go_num, by go_num, by omega, by omega, HF.out, by (repeat' first | (with_reducible exact Grew.refl _) | (with_reducible assumption) | (with_reducible refine Grew.alloc ?_ _) | (with_reducible refine Grew.drew ?_) | (with_reducible refine Grew.drewN ?_ _) | (with_reducible refine Grew.setRow ?_ (by first | (simp; done) | (simp; omega) | omega) _) | (with_reducible refine Grew.setCell ?_ (by first | (simp; done) | (simp; omega) | omega) _) | ((with_reducible apply Grew.trans); rotate_left; (with_reducible assumption)) | ((with_reducible apply Grew.turn); rotate_left; (with_reducible assumption); (focus (intro i hi; first | omega | (simp at hi; omega)))) | fail)⟩
      · rw [List.drop_eq_nil_of_le (by omega), atS] at hix
        have HF := Lib.hid hix
        clear hix
        go_wp2_with fail
        go_ret2
        exact ⟨ret_ib (by rw [HF.out]) (by rw [HF.out]), by (repeat' first | (with_reducible exact Grew.refl _) | (with_reducible assumption) | (with_reducible refine Grew.alloc ?_ _) | (with_reducible refine Grew.drew ?_) | (with_reducible refine Grew.drewN ?_ _) | (with_reducible refine Grew.setRow ?_ (by first | (simp; done) | (simp; omega) | omega) _) | (with_reducible refine Grew.setCell ?_ (by first | (simp; done) | (simp; omega) | omega) _) | ((with_reducible apply Grew.trans); rotate_left; (with_reducible assumption)) | ((with_reducible apply Grew.turn); rotate_left; (with_reducible assumption); (focus (intro i hi; first | omega | (simp at hi; omega)))) | fail)⟩
end
end Go.Proofs.Ytnlaogneceanoaa
