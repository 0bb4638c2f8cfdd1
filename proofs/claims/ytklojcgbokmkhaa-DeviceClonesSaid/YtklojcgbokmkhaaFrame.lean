/- Frames: what a call leaves as it was. -/
import Derived.Test.YtklojcgbokmkhaaRows
import Derived.WalkKit
import Derived.Laws.Tables
import Derived.Deep.QuietTactic
namespace Go.Proofs.Ytklojcgbokmkhaa
set_option linter.unusedVariables false
set_option linter.unusedSimpArgs false
set_option linter.unusedSectionVars false
open Go.RowKit
/-- Nothing that was there has turned. -/
def Grew (w w' : World) : Prop := Below w.heap.size w w'
theorem Grew.refl (w : World) : Grew w w := Below.refl _ _
theorem Grew.trans {a b c : World} (h : Grew a b) (k : Grew b c) : Grew a c := Below.trans h (Below.mono k h.size)
theorem Grew.trans' {a b c : World} (h : Grew a b) (k : Below a.heap.size b c) : Grew a c := Below.trans h k
theorem Grew.alloc {a w : World} (h : Grew a w) (o : Obj) : Grew a (w.alloc o) := Below.alloc h h.size o
theorem Grew.drew {a w : World} (h : Grew a w) : Grew a w.drew := Below.drew h
theorem Grew.drewN {a w : World} (h : Grew a w) (n : Nat) : Grew a (w.drewN n) := ⟨h.os, h.tape, h.output, h.size, h.block⟩
theorem Grew.setCell {a w : World} (h : Grew a w) {p : Addr} (hp : a.heap.size ≤ p.block) (u : Value) : Grew a (w.setCell p u) := Below.setCell h hp u
theorem Grew.cellEq {a w : World} (h : Grew a w) : ∀ b o, b < a.heap.size → w.cell? ⟨b, o, none⟩ = a.cell? ⟨b, o, none⟩ := fun b o hb => h.cell (p := ⟨b, o, none⟩) hb
theorem Grew.frozenEq {a w : World} (h : Grew a w) : ∀ b o, b < a.heap.size → w.frozen? ⟨b, o, none⟩ = a.frozen? ⟨b, o, none⟩ := fun b o hb => h.frozen (p := ⟨b, o, none⟩) hb
theorem Grew.heapEq {a w : World} (h : Grew a w) {b : Nat} (hb : b < a.heap.size) : w.heap[b]? = a.heap[b]? := h.block b hb
/-- Of what was there only the blocks in S may have turned. -/
structure Turned (S : Nat → Prop) (w w' : World) : Prop where
  os : w'.os = w.os
  tape : w'.tape = w.tape
  output : w'.output = w.output
  size : w.heap.size ≤ w'.heap.size
  block : ∀ k, k < w.heap.size → ¬ S k → w'.heap[k]? = w.heap[k]?
theorem Turned.refl (S : Nat → Prop) (w : World) : Turned S w w := ⟨rfl, rfl, rfl, Nat.le_refl _, fun _ _ _ => rfl⟩
theorem Grew.turned {a w : World} (h : Grew a w) (S : Nat → Prop) : Turned S a w := ⟨h.os, h.tape, h.output, h.size, fun k hk _ => h.block k hk⟩
theorem Turned.trans {S : Nat → Prop} {a b c : World} (h : Turned S a b) (k : Turned S b c) : Turned S a c :=
  ⟨k.os.trans h.os, k.tape.trans h.tape, k.output.trans h.output, Nat.le_trans h.size k.size, fun i hi hs => (k.block i (Nat.lt_of_lt_of_le hi h.size) hs).trans (h.block i hi hs)⟩
theorem Turned.mono {S T : Nat → Prop} {a b : World} (h : Turned S a b) (hST : ∀ k, k < a.heap.size → S k → T k) : Turned T a b :=
  ⟨h.os, h.tape, h.output, h.size, fun i hi hs => h.block i hi (fun hS => hs (hST i hi hS))⟩
theorem Turned.grew {S : Nat → Prop} {a b : World} (h : Turned S a b) (hS : ∀ k, k < a.heap.size → ¬ S k) : Grew a b :=
  ⟨h.os, h.tape, h.output, h.size, fun i hi => h.block i hi (hS i hi)⟩
theorem Turned.next {S T : Nat → Prop} {a b c : World} (h : Turned S a b) (k : Turned T b c) (hT : ∀ i, i < a.heap.size → T i → S i) : Turned S a c :=
  ⟨k.os.trans h.os, k.tape.trans h.tape, k.output.trans h.output, Nat.le_trans h.size k.size, fun i hi hs => (k.block i (Nat.lt_of_lt_of_le hi h.size) (fun hT' => hs (hT i hi hT'))).trans (h.block i hi hs)⟩
theorem Turned.alloc {S : Nat → Prop} {a w : World} (h : Turned S a w) (o : Obj) : Turned S a (w.alloc o) := h.next (T := fun _ => False) ((Grew.refl w).alloc o |>.turned _) (fun _ _ hf => hf.elim)
theorem Turned.drew {S : Nat → Prop} {a w : World} (h : Turned S a w) : Turned S a w.drew := ⟨h.os, h.tape, h.output, h.size, h.block⟩
theorem Turned.drewN {S : Nat → Prop} {a w : World} (h : Turned S a w) (n : Nat) : Turned S a (w.drewN n) := ⟨h.os, h.tape, h.output, h.size, h.block⟩
theorem Turned.setCell {S : Nat → Prop} {a w : World} (h : Turned S a w) {p : Addr} (hp : p.block < a.heap.size → S p.block) (u : Value) : Turned S a (w.setCell p u) :=
  ⟨h.os, h.tape, h.output, by simpa [World.setCell] using h.size, fun i hi hs => (Below.heap_setCell w p u i (by rintro rfl; exact hs (hp hi))).trans (h.block i hi hs)⟩
theorem Turned.andGrew {S : Nat → Prop} {a b c : World} (h : Turned S a b) (k : Grew b c) : Turned S a c := h.next (k.turned (fun _ => False)) (fun _ _ hf => hf.elim)
theorem Turned.cellEq {S : Nat → Prop} {a w : World} (h : Turned S a w) : ∀ b o, b < a.heap.size → ¬ S b → w.cell? ⟨b, o, none⟩ = a.cell? ⟨b, o, none⟩ := fun b o hb hs => World.cell?_of_block (h.block b hb hs)
theorem Turned.frozenEq {S : Nat → Prop} {a w : World} (h : Turned S a w) : ∀ b o, b < a.heap.size → ¬ S b → w.frozen? ⟨b, o, none⟩ = a.frozen? ⟨b, o, none⟩ := fun b o hb hs => World.frozen?_of_block (h.block b hb hs)

theorem Grew.turn {S : Nat → Prop} {a b c : World} (h : Grew a b) (k : Turned S b c) (hS : ∀ i, S i → a.heap.size ≤ i) : Grew a c :=
  ((h.turned S).trans k).grew fun i hi hs => absurd (hS i hs) (by omega)
/-- A block that is known whole. -/
def Blk (w : World) (g : Nat) (t : TypeId) (cs : Array Value) : Prop := w.heap[g]? = some (.cells cs t (0, 0))
section
variable {w w' : World} {g : Nat} {t : TypeId} {cs : Array Value}
theorem Blk.lt (h : Blk w g t cs) : g < w.heap.size := by
  rcases Nat.lt_or_ge g w.heap.size with hlt | hge
  · exact hlt
  · unfold Blk at h; rw [Array.getElem?_eq_none hge] at h; cases h
theorem Blk.cell (h : Blk w g t cs) (i : Nat) : w.cell? ⟨g, i, none⟩ = cs[i]? := cell_of_row w g i cs t (0, 0) h
theorem Blk.frozen (h : Blk w g t cs) (i : Nat) : w.frozen? ⟨g, i, none⟩ = false := by
  unfold Blk at h
  simp [World.frozen?, h]
theorem Blk.new (w : World) (t : TypeId) (cs : Array Value) {n : Nat} (hn : n = w.heap.size) : Blk (w.alloc (.cells cs t)) n t cs := by subst hn; exact heap_alloc_new w _
theorem Blk.drew (h : Blk w g t cs) : Blk w.drew g t cs := h
theorem Blk.drewN (h : Blk w g t cs) (n : Nat) : Blk (w.drewN n) g t cs := h
theorem Blk.alloc (h : Blk w g t cs) (o : Obj) : Blk (w.alloc o) g t cs := (Below.heap_alloc w o g h.lt).trans h
theorem Blk.conv {ds : Array Value} (h : Blk w g t cs) (hd : cs = ds) : Blk w g t ds := hd ▸ h
theorem Blk.set_ (h : Blk w g t cs) (i : Nat) (u : Value) : Blk (w.setCell ⟨g, i, none⟩ u) g t (cs.setIfInBounds i u) := by
  unfold Blk at h ⊢
  simp [World.setCell, Array.getElem?_modify, h]
theorem Blk.far (h : Blk w g t cs) {p : Addr} (hp : g ≠ p.block) (u : Value) : Blk (w.setCell p u) g t cs := (Below.heap_setCell w p u g hp).trans h
theorem Blk.turned {S : Nat → Prop} (h : Blk w g t cs) (hb : Turned S w w') (hs : ¬ S g) : Blk w' g t cs := (hb.block g h.lt hs).trans h
theorem Blk.grew (h : Blk w g t cs) (hb : Grew w w') : Blk w' g t cs := (hb.block g h.lt).trans h
theorem Blk.ne_ {g' : Nat} {t' : TypeId} {cs' : Array Value} (h : Blk w g t cs) (h' : Blk w g' t' cs') (hne : t ≠ t') : g ≠ g' := by
  rintro rfl
  unfold Blk at h h'
  rw [h] at h'
  injection h' with h'
  injection h' with _ ht
  exact hne ht
end
theorem Grew.setRow {a w : World} (h : Grew a w) {g : Nat} (hg : a.heap.size ≤ g) (cs : Array Value) : Grew a (w.setRow g cs) :=
  h.trans' ⟨rfl, rfl, rfl, by simp [World.setRow], fun k hk => by simp only [World.setRow, Array.getElem?_modify]; rw [if_neg (by omega)]⟩
theorem Turned.setRow {S : Nat → Prop} {a w : World} (h : Turned S a w) {g : Nat} (hg : g < a.heap.size → S g) (cs : Array Value) : Turned S a (w.setRow g cs) :=
  ⟨h.os, h.tape, h.output, by simpa [World.setRow] using h.size, fun i hi hs => (by simp only [World.setRow, Array.getElem?_modify]; rw [if_neg (by rintro rfl; exact hs (hg hi))] : (w.setRow g cs).heap[i]? = w.heap[i]?).trans (h.block i hi hs)⟩
section
variable {w w' : World} {g : Nat} {t : TypeId} {cs : Array Value}
theorem Blk.setRow (h : Blk w g t cs) (ds : Array Value) : Blk (w.setRow g ds) g t ds := setRow_heap w g cs ds t (0, 0) h
theorem Blk.farRow (h : Blk w g t cs) {g' : Nat} (hp : g ≠ g') (ds : Array Value) : Blk (w.setRow g' ds) g t cs := by
  unfold Blk at h ⊢
  simp only [World.setRow, Array.getElem?_modify]
  rw [if_neg (by omega)]
  exact h
end
end Go.Proofs.Ytklojcgbokmkhaa
