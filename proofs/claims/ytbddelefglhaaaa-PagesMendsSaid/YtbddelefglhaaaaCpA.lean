/- Frames: what a call leaves as it was. Chapter 2, plain: the sum of bytes. Chapter 3, plain: a device. A map of the call's own, as a function of its keys. Arguments opened: a slice whose elements are known by their cells; a struct of one-cell fields. A slice of the call's own, element by element. A slice of the call's own, cut to its first elements; 'clear' on the others. An append at a step of a region that draws its order. 'append(v, x...)': a whole list appended to a slice of the call's own. Regions that draw their order, whose last store turns a cell that the region has loaded: loads are taken first under a fact that need not hold behind the operations A. 'append(v, x...)' at a step of a region that draws its order; parts of a list. Regions that draw their order, once more: behind every operation that is not in A the fact S still holds if it held ahead of it. Loads are taken first under S; what needs no fact may be taken first at any time. Whole blocks, loaded and stored at once; an array of truth values; a list of runs in memory. Chapter 3: a device in memory. Chapter 3: Read, Pending. -/
import Derived.Test.YtbddelefglhaaaaRows
import Derived.WalkKit
import Derived.Laws.Tables
import Derived.Deep.QuietTactic
import Derived.Lib.Hide
import Derived.Maps.Own
import Derived.Maps.OwnSet
import Derived.Maps.RangeWalk
import Derived.ProofKit
import Derived.OpenShut
import Derived.Deep.Slices
import Derived.Deep.Fields
import Derived.ChangeSame
import Derived.Laws.AppendOwn
import Derived.Laws.OwnMore
import Derived.Laws.CopyRow
import Derived.Deep.AppendLies
import Derived.Deep.RegionHeld3
import Derived.Maps.AppendAt
import Derived.OwnWalk
import Derived.OrdersHeld
import Derived.Deep.DrawnRows
import Derived.Laws.Rows
import Derived.Deep.MidRow
import Derived.WalkSpells
import Derived.WalkLawsBesides
import Derived.Handy
import Derived.Deep.LoopGhost
import Derived.BigQuiet
import Derived.Deep.DeepCutAuto
import Derived.Laws.EntriesVeiled
namespace Go.Proofs.Ytbddelefglhaaaa
set_option linter.unusedVariables false
set_option linter.unusedSimpArgs false
set_option linter.unusedSectionVars false
open Go.RowKit
/-- Nothing that was there has turned. -/
def Grew (w w' : World) : Prop := Below w.heap.size w w'
theorem Grew.refl (w : World) : Grew w w := Below.refl _ _
theorem Grew.trans {a b c : World} (h : Grew a b) (k : Grew b c) : Grew a c := Below.trans h (Below.mono k h.size)
theorem Grew.trans' {a b c : World} (h : Grew a b) (k : Below a.heap.size b c) : Grew a c := Below.trans h k
theorem Grew.alloc {a w : World} (h : Grew a w) (o : Obj) : Grew a (w.alloc o) := Below.alloc h h.size o
theorem Grew.drew {a w : World} (h : Grew a w) : Grew a w.drew := Below.drew h
theorem Grew.drewN {a w : World} (h : Grew a w) (n : Nat) : Grew a (w.drewN n) := ⟨h.os, h.tape, h.output, h.size, h.block⟩
theorem Grew.setCell {a w : World} (h : Grew a w) {p : Addr} (hp : a.heap.size ≤ p.block) (u : Value) : Grew a (w.setCell p u) := Below.setCell h hp u
theorem Grew.cellEq {a w : World} (h : Grew a w) : ∀ b o, b < a.heap.size → w.cell? ⟨b, o, none⟩ = a.cell? ⟨b, o, none⟩ := fun b o hb => h.cell (p := ⟨b, o, none⟩) hb
/-- Of what was there only the blocks in S may have turned. -/
structure Turned (S : Nat → Prop) (w w' : World) : Prop where
  os : w'.os = w.os
  tape : w'.tape = w.tape
  output : w'.output = w.output
  size : w.heap.size ≤ w'.heap.size
  block : ∀ k, k < w.heap.size → ¬ S k → w'.heap[k]? = w.heap[k]?
theorem Turned.refl (S : Nat → Prop) (w : World) : Turned S w w := ⟨rfl, rfl, rfl, Nat.le_refl _, fun _ _ _ => rfl⟩
theorem Grew.turned {a w : World} (h : Grew a w) (S : Nat → Prop) : Turned S a w := ⟨h.os, h.tape, h.output, h.size, fun k hk _ => h.block k hk⟩
theorem Turned.trans {S : Nat → Prop} {a b c : World} (h : Turned S a b) (k : Turned S b c) : Turned S a c :=
  ⟨k.os.trans h.os, k.tape.trans h.tape, k.output.trans h.output, Nat.le_trans h.size k.size, fun i hi hs => (k.block i (Nat.lt_of_lt_of_le hi h.size) hs).trans (h.block i hi hs)⟩
theorem Turned.mono {S T : Nat → Prop} {a b : World} (h : Turned S a b) (hST : ∀ k, k < a.heap.size → S k → T k) : Turned T a b :=
  ⟨h.os, h.tape, h.output, h.size, fun i hi hs => h.block i hi (fun hS => hs (hST i hi hS))⟩
theorem Turned.grew {S : Nat → Prop} {a b : World} (h : Turned S a b) (hS : ∀ k, k < a.heap.size → ¬ S k) : Grew a b :=
  ⟨h.os, h.tape, h.output, h.size, fun i hi => h.block i hi (hS i hi)⟩
theorem Turned.next {S T : Nat → Prop} {a b c : World} (h : Turned S a b) (k : Turned T b c) (hT : ∀ i, i < a.heap.size → T i → S i) : Turned S a c :=
  ⟨k.os.trans h.os, k.tape.trans h.tape, k.output.trans h.output, Nat.le_trans h.size k.size, fun i hi hs => (k.block i (Nat.lt_of_lt_of_le hi h.size) (fun hT' => hs (hT i hi hT'))).trans (h.block i hi hs)⟩
theorem Turned.alloc {S : Nat → Prop} {a w : World} (h : Turned S a w) (o : Obj) : Turned S a (w.alloc o) := h.next (T := fun _ => False) ((Grew.refl w).alloc o |>.turned _) (fun _ _ hf => hf.elim)
theorem Turned.drew {S : Nat → Prop} {a w : World} (h : Turned S a w) : Turned S a w.drew := ⟨h.os, h.tape, h.output, h.size, h.block⟩
theorem Turned.drewN {S : Nat → Prop} {a w : World} (h : Turned S a w) (n : Nat) : Turned S a (w.drewN n) := ⟨h.os, h.tape, h.output, h.size, h.block⟩
theorem Turned.setCell {S : Nat → Prop} {a w : World} (h : Turned S a w) {p : Addr} (hp : p.block < a.heap.size → S p.block) (u : Value) : Turned S a (w.setCell p u) :=
  ⟨h.os, h.tape, h.output, by simpa [World.setCell] using h.size, fun i hi hs => (Below.heap_setCell w p u i (by rintro rfl; exact hs (hp hi))).trans (h.block i hi hs)⟩
theorem Turned.andGrew {S : Nat → Prop} {a b c : World} (h : Turned S a b) (k : Grew b c) : Turned S a c := h.next (k.turned (fun _ => False)) (fun _ _ hf => hf.elim)
theorem Turned.cellEq {S : Nat → Prop} {a w : World} (h : Turned S a w) : ∀ b o, b < a.heap.size → ¬ S b → w.cell? ⟨b, o, none⟩ = a.cell? ⟨b, o, none⟩ := fun b o hb hs => World.cell?_of_block (h.block b hb hs)
theorem Grew.turn {S : Nat → Prop} {a b c : World} (h : Grew a b) (k : Turned S b c) (hS : ∀ i, S i → a.heap.size ≤ i) : Grew a c :=
  ((h.turned S).trans k).grew fun i hi hs => absurd (hS i hs) (by omega)
/-- A block that is known whole. -/
def Blk (w : World) (g : Nat) (t : TypeId) (cs : Array Value) : Prop := w.heap[g]? = some (.cells cs t (0, 0))
section
variable {w w' : World} {g : Nat} {t : TypeId} {cs : Array Value}
theorem Blk.lt (h : Blk w g t cs) : g < w.heap.size := by
  rcases Nat.lt_or_ge g w.heap.size with hlt | hge
  · exact hlt
  · unfold Blk at h; rw [Array.getElem?_eq_none hge] at h; cases h
theorem Blk.cell (h : Blk w g t cs) (i : Nat) : w.cell? ⟨g, i, none⟩ = cs[i]? := cell_of_row w g i cs t (0, 0) h
theorem Blk.frozen (h : Blk w g t cs) (i : Nat) : w.frozen? ⟨g, i, none⟩ = false := by
  unfold Blk at h
  simp [World.frozen?, h]
theorem Blk.new (w : World) (t : TypeId) (cs : Array Value) {n : Nat} (hn : n = w.heap.size) : Blk (w.alloc (.cells cs t)) n t cs := by subst hn; exact heap_alloc_new w _
theorem Blk.drew (h : Blk w g t cs) : Blk w.drew g t cs := h
theorem Blk.drewN (h : Blk w g t cs) (n : Nat) : Blk (w.drewN n) g t cs := h
theorem Blk.alloc (h : Blk w g t cs) (o : Obj) : Blk (w.alloc o) g t cs := (Below.heap_alloc w o g h.lt).trans h
theorem Blk.conv {ds : Array Value} (h : Blk w g t cs) (hd : cs = ds) : Blk w g t ds := hd ▸ h
theorem Blk.set_ (h : Blk w g t cs) (i : Nat) (u : Value) : Blk (w.setCell ⟨g, i, none⟩ u) g t (cs.setIfInBounds i u) := by
  unfold Blk at h ⊢
  simp [World.setCell, Array.getElem?_modify, h]
theorem Blk.far (h : Blk w g t cs) {p : Addr} (hp : g ≠ p.block) (u : Value) : Blk (w.setCell p u) g t cs := (Below.heap_setCell w p u g hp).trans h
theorem Blk.turned {S : Nat → Prop} (h : Blk w g t cs) (hb : Turned S w w') (hs : ¬ S g) : Blk w' g t cs := (hb.block g h.lt hs).trans h
theorem Blk.grew (h : Blk w g t cs) (hb : Grew w w') : Blk w' g t cs := (hb.block g h.lt).trans h
theorem Blk.ne_ {g' : Nat} {t' : TypeId} {cs' : Array Value} (h : Blk w g t cs) (h' : Blk w g' t' cs') (hne : t ≠ t') : g ≠ g' := by
  rintro rfl
  unfold Blk at h h'
  rw [h] at h'
  injection h' with h'
  injection h' with _ ht
  exact hne ht
end
theorem Grew.setRow {a w : World} (h : Grew a w) {g : Nat} (hg : a.heap.size ≤ g) (cs : Array Value) : Grew a (w.setRow g cs) :=
  h.trans' ⟨rfl, rfl, rfl, by simp [World.setRow], fun k hk => by simp only [World.setRow, Array.getElem?_modify]; rw [if_neg (by omega)]⟩
theorem Turned.setRow {S : Nat → Prop} {a w : World} (h : Turned S a w) {g : Nat} (hg : g < a.heap.size → S g) (cs : Array Value) : Turned S a (w.setRow g cs) :=
  ⟨h.os, h.tape, h.output, by simpa [World.setRow] using h.size, fun i hi hs => (by simp only [World.setRow, Array.getElem?_modify]; rw [if_neg (by rintro rfl; exact hs (hg hi))] : (w.setRow g cs).heap[i]? = w.heap[i]?).trans (h.block i hi hs)⟩
section
variable {w w' : World} {g : Nat} {t : TypeId} {cs : Array Value}
theorem Blk.setRow (h : Blk w g t cs) (ds : Array Value) : Blk (w.setRow g ds) g t ds := setRow_heap w g cs ds t (0, 0) h
theorem Blk.farRow (h : Blk w g t cs) {g' : Nat} (hp : g ≠ g') (ds : Array Value) : Blk (w.setRow g' ds) g t cs := by
  unfold Blk at h ⊢
  simp only [World.setRow, Array.getElem?_modify]
  rw [if_neg (by omega)]
  exact h
end
end Go.Proofs.Ytbddelefglhaaaa
namespace Go.Proofs.Ytbddelefglhaaaa
set_option linter.unusedVariables false
set_option linter.unusedSimpArgs false
set_option linter.unusedSectionVars false
open Go.RowKit
/-- A register is shifted by one bit. -/
def sh1 (c : BitVec 32) : BitVec 32 := if c.getLsbD 0 = true then (c >>> 1) ^^^ 0x82F63B78#32 else c >>> 1
def shN : Nat → BitVec 32 → BitVec 32
  | 0, c => c
  | n + 1, c => shN n (sh1 c)
theorem shN_add (m n : Nat) : ∀ c, shN (m + n) c = shN n (shN m c) := by
  induction m with
  | zero => intro c; rw [Nat.zero_add]; rfl
  | succ m ih => intro c; rw [show m + 1 + n = (m + n) + 1 from by omega]; exact ih (sh1 c)
theorem shN_end (n : Nat) (c : BitVec 32) : shN (n + 1) c = sh1 (shN n c) := by rw [shN_add]; rfl
theorem sh1_form (c : BitVec 32) : sh1 c = (c >>> 1) ^^^ (if c.getLsbD 0 = true then 0x82F63B78#32 else 0#32) := by
  unfold sh1
  split
  · rfl
  · rw [BitVec.xor_zero]
theorem xor_mid (a b p q : BitVec 32) : (a ^^^ b) ^^^ (p ^^^ q) = (a ^^^ p) ^^^ (b ^^^ q) := by
  rw [BitVec.xor_assoc, BitVec.xor_assoc, ← BitVec.xor_assoc b p q, BitVec.xor_comm b p, BitVec.xor_assoc p b q]
theorem sh1_xor (a b : BitVec 32) : sh1 (a ^^^ b) = sh1 a ^^^ sh1 b := by
  rw [sh1_form, sh1_form, sh1_form, BitVec.getLsbD_xor, BitVec.ushiftRight_xor_distrib, ← xor_mid]
  congr 1
  cases a.getLsbD 0 <;> cases b.getLsbD 0 <;> simp
theorem shN_xor (n : Nat) : ∀ a b, shN n (a ^^^ b) = shN n a ^^^ shN n b := by
  induction n with
  | zero => intro a b; rfl
  | succ n ih => intro a b; show shN n (sh1 (a ^^^ b)) = _; rw [sh1_xor, ih]; rfl
theorem sh1_low (c : BitVec 32) (h : c.getLsbD 0 = false) : sh1 c = c >>> 1 := by unfold sh1; rw [if_neg (by rw [h]; simp)]
theorem shN_low (c : BitVec 32) : ∀ n, (∀ i, i < n → c.getLsbD i = false) → shN n c = c >>> n := by
  intro n
  induction n with
  | zero => intro _; rw [BitVec.ushiftRight_zero]; rfl
  | succ n ih =>
    intro h
    rw [shN_end, ih (fun i hi => h i (by omega)), sh1_low _ (by rw [BitVec.getLsbD_ushiftRight]; exact h (n + 0) (by omega)), BitVec.shiftRight_add]
/-- Four bits by the table. -/
def nib (x b : BitVec 32) : BitVec 32 := (x >>> 4) ^^^ shN 4 ((x ^^^ b) &&& 15#32)
theorem mask_bit (i : Nat) : (15#32).getLsbD i = decide (i < 4) := by
  rcases Nat.lt_or_ge i 32 with h | h
  · have : ∀ i : Fin 32, (15#32).getLsbD i.1 = decide (i.1 < 4) := by decide
    exact this ⟨i, h⟩
  · rw [BitVec.getLsbD_of_ge _ _ h, decide_eq_false (by omega)]
theorem nib_is (x b : BitVec 32) (hb : b >>> 4 = 0#32) : nib x b = shN 4 (x ^^^ b) := by
  obtain ⟨y, hy⟩ : ∃ y, x ^^^ b = y := ⟨_, rfl⟩
  have hx : x >>> 4 = y >>> 4 := by rw [← hy, BitVec.ushiftRight_xor_distrib, hb, BitVec.xor_zero]
  unfold nib
  rw [hx, hy]
  have hs : y = (y &&& 15#32) ^^^ (y &&& ~~~15#32) := by
    ext i hi
    rw [← BitVec.getLsbD_eq_getElem, ← BitVec.getLsbD_eq_getElem, BitVec.getLsbD_xor, BitVec.getLsbD_and, BitVec.getLsbD_and, BitVec.getLsbD_not, mask_bit]
    by_cases h : i < 4 <;> simp [h, hi]
  have hl : shN 4 (y &&& ~~~15#32) = y >>> 4 := by
    rw [shN_low _ 4 (fun i hi => by rw [BitVec.getLsbD_and, BitVec.getLsbD_not, mask_bit, decide_eq_true hi]; simp)]
    ext i hi
    rw [← BitVec.getLsbD_eq_getElem, ← BitVec.getLsbD_eq_getElem, BitVec.getLsbD_ushiftRight, BitVec.getLsbD_ushiftRight, BitVec.getLsbD_and, BitVec.getLsbD_not, mask_bit, decide_eq_false (show ¬ (4 + i < 4) from by omega)]
    rcases Nat.lt_or_ge (4 + i) 32 with h | h
    · rw [decide_eq_true h]; simp
    · rw [BitVec.getLsbD_of_ge _ _ h]; rfl
  conv => rhs; rw [hs]
  rw [shN_xor, hl, BitVec.xor_comm]
def byteV (c : UInt8) : BitVec 32 := BitVec.ofNat 32 c.toNat
/-- A byte more. -/
def stepB (x : BitVec 32) (c : UInt8) : BitVec 32 := shN 8 (x ^^^ byteV c)
theorem byte_parts : ∀ c : UInt8, byteV c = (byteV c &&& 15#32) ^^^ ((byteV c >>> 4) <<< 4) ∧ (byteV c &&& 15#32) >>> 4 = 0#32 ∧ (byteV c >>> 4) >>> 4 = 0#32 ∧ shN 4 ((byteV c >>> 4) <<< 4) = byteV c >>> 4 := by
  intro c
  have key : ∀ n : Fin 256, (BitVec.ofNat 32 n.1 = (BitVec.ofNat 32 n.1 &&& 15#32) ^^^ ((BitVec.ofNat 32 n.1 >>> 4) <<< 4)) ∧ (BitVec.ofNat 32 n.1 &&& 15#32) >>> 4 = 0#32 ∧ (BitVec.ofNat 32 n.1 >>> 4) >>> 4 = 0#32 ∧ shN 4 ((BitVec.ofNat 32 n.1 >>> 4) <<< 4) = BitVec.ofNat 32 n.1 >>> 4 := by decide +kernel
  exact key ⟨c.toNat, c.toNat_lt⟩
theorem nib_nib (x : BitVec 32) (c : UInt8) : nib (nib x (byteV c &&& 15#32)) (byteV c >>> 4) = stepB x c := by
  obtain ⟨h1, h2, h3, h4⟩ := byte_parts c
  rw [nib_is _ _ h3, nib_is _ _ h2]
  unfold stepB
  conv => rhs; rw [h1]
  rw [← BitVec.xor_assoc, show (8 : Nat) = 4 + 4 from rfl, shN_add, shN_xor 4 (x ^^^ (byteV c &&& 15#32)), h4]
def crcU (s : List UInt8) (x : BitVec 32) : BitVec 32 := s.foldl stepB x
/-- The sum of bytes. -/
def sumS (s : ByteArray) : BitVec 32 := ~~~(crcU s.data.toList (~~~0#32))
theorem crcU_snoc (s : ByteArray) (k : Nat) (h : k < s.size) (x : BitVec 32) : crcU (s.data.toList.take (k + 1)) x = stepB (crcU (s.data.toList.take k) x) s[k] := by
  unfold crcU
  rw [List.take_succ_eq_append_getElem (by simpa using h), List.foldl_append]
  rfl
/-- A number's value, as the program holds it. -/
def u32 (x : BitVec 32) : Int := (x.toNat : Int)
theorem u32_bd (x : BitVec 32) : 0 ≤ u32 x ∧ u32 x ≤ 4294967295 := by unfold u32; have := x.isLt; omega
theorem u32_inj {x y : BitVec 32} (h : u32 x = u32 y) : x = y := by
  unfold u32 at h
  exact BitVec.eq_of_toNat_eq (by omega)
theorem ofInt_u32 (x : BitVec 32) : BitVec.ofInt 32 (u32 x) = x := by
  unfold u32
  rw [BitVec.ofInt_natCast]
  rw [BitVec.ofNat_toNat, BitVec.setWidth_eq]
theorem wrap_u32 (x : BitVec 32) : IntKind.u32.wrap (x.toNat : Int) = u32 x := by
  have := x.isLt
  unfold u32
  simp only [IntKind.wrap, IntKind.signed, IntKind.bits]
  simp
  omega
theorem xor_u32 (x y : BitVec 32) : bits .xor .u32 (u32 x) (u32 y) = u32 (x ^^^ y) := by
  show IntKind.u32.wrap ((BitVec.ofInt 32 (u32 x) ^^^ BitVec.ofInt 32 (u32 y)).toNat : Int) = _
  rw [ofInt_u32, ofInt_u32, wrap_u32]
theorem and_u32 (x y : BitVec 32) : bits .and .u32 (u32 x) (u32 y) = u32 (x &&& y) := by
  show IntKind.u32.wrap ((BitVec.ofInt 32 (u32 x) &&& BitVec.ofInt 32 (u32 y)).toNat : Int) = _
  rw [ofInt_u32, ofInt_u32, wrap_u32]
theorem or_u32 (x y : BitVec 32) : bits .or .u32 (u32 x) (u32 y) = u32 (x ||| y) := by
  show IntKind.u32.wrap ((BitVec.ofInt 32 (u32 x) ||| BitVec.ofInt 32 (u32 y)).toNat : Int) = _
  rw [ofInt_u32, ofInt_u32, wrap_u32]
theorem shr_u32 (x : BitVec 32) (n : Nat) : u32 x / 2 ^ n = u32 (x >>> n) := by
  unfold u32
  rw [BitVec.toNat_ushiftRight, Nat.shiftRight_eq_div_pow]
  norm_cast
theorem not_u32 (x : BitVec 32) : bits .xor .u32 4294967295 (u32 x) = u32 (~~~x) := by
  rw [show (4294967295 : Int) = u32 (~~~0#32) from by decide, xor_u32]
  congr 1
end Go.Proofs.Ytbddelefglhaaaa
namespace Go.Proofs.Ytbddelefglhaaaa
set_option linter.unusedVariables false
set_option linter.unusedSimpArgs false
set_option linter.unusedSectionVars false
open Go.RowKit
/-- A pending write. -/
structure Wr where
  sys : Int
  sec : Nat
  data : ByteArray
instance : Inhabited Wr := ⟨⟨0, 0, ⟨#[]⟩⟩⟩
def okI (n : Int) : Prop := -9223372036854775808 ≤ n ∧ n ≤ 9223372036854775807
structure Dev where
  st : List ByteArray
  old : List (List ByteArray)
  pend : List Wr
  fen : Int → Int
  fuse : Option (Nat × List Int)
  failed : Bool
def emp : ByteArray := ⟨#[]⟩
structure Dev.Ok (D : Dev) : Prop where
  len : D.old.length = D.st.length
  pos : 1 ≤ D.st.length
  lim : D.st.length ≤ 1155
  st : ∀ s ∈ D.st, s.size = 140
  old : ∀ l ∈ D.old, l.length ≤ 8 ∧ ∀ s ∈ l, s.size = 140
  pend : ∀ r ∈ D.pend, r.sec < D.st.length ∧ r.data.size = 140 ∧ (1 ≤ r.sys ∧ r.sys ≤ 4)
  fen : ∀ s, 0 ≤ D.fen s ∧ D.fen s ≤ 1099511627777
/-- The data of the last write of a sector. -/
def lastW : List Wr → Nat → Option ByteArray
  | [], _ => none
  | r :: l, i => match lastW l i with
    | some s => some s
    | none => if r.sec = i then some r.data else none
theorem lastW_snoc (l : List Wr) (r : Wr) (i : Nat) : lastW (l ++ [r]) i = if r.sec = i then some r.data else lastW l i := by
  induction l with
  | nil => simp [lastW]
  | cons x l ih =>
    rw [List.cons_append, lastW, ih]
    by_cases h : r.sec = i
    · rw [if_pos h, if_pos h]
    · rw [if_neg h, if_neg h, lastW]
def Dev.at (D : Dev) (i : Nat) : ByteArray := D.st.getD i emp
def Dev.olds (D : Dev) (i : Nat) : List ByteArray := D.old.getD i []
def Dev.content (D : Dev) (i : Nat) : ByteArray := (lastW D.pend i).getD (D.at i)
def changeD (D : Dev) (i : Nat) (s : ByteArray) : Dev :=
  if D.at i = s then D else { D with st := D.st.set i s, old := D.old.set i ((D.at i :: D.olds i).take 8) }
def cutW (r : Wr) (n : Nat) (was : ByteArray) : ByteArray := r.data.extract 0 n ++ was.extract n was.size
def endStep (p : Wr → Bool) (sv : Nat → Nat) (s : Dev × Nat) (r : Wr) : Dev × Nat :=
  if p r then (changeD s.1 r.sec (cutW r (sv s.2) (s.1.at r.sec)), s.2 + 1) else s
def runEnd (D : Dev) (p : Wr → Bool) (sv : Nat → Nat) (l : List Wr) : Dev × Nat := l.foldl (endStep p sv) (D, 0)
def finishD (D : Dev) (p : Wr → Bool) (sv : Nat → Nat) : Dev := { (runEnd D p sv D.pend).1 with pend := D.pend.filter fun r => !p r }
def svN (l : List Int) (k : Nat) : Nat := (min (max 0 (l.getD k 0)) 140).toNat
theorem svN_le (l : List Int) (k : Nat) : svN l k ≤ 140 := by unfold svN; omega
theorem at_size {D : Dev} (h : D.Ok) {i : Nat} (hi : i < D.st.length) : (D.at i).size = 140 := by
  unfold Dev.at
  rw [List.getD_eq_getElem?_getD, List.getElem?_eq_getElem hi]
  exact h.st _ (List.getElem_mem hi)
theorem olds_len {D : Dev} (h : D.Ok) (i : Nat) : (D.olds i).length ≤ 8 := by
  unfold Dev.olds
  rw [List.getD_eq_getElem?_getD]
  cases hh : D.old[i]? with
  | none => simp
  | some l => exact (h.old l (List.mem_of_getElem? hh)).1
theorem olds_size {D : Dev} (h : D.Ok) (i : Nat) : ∀ s ∈ D.olds i, s.size = 140 := by
  unfold Dev.olds
  rw [List.getD_eq_getElem?_getD]
  cases hh : D.old[i]? with
  | none => simp
  | some l => exact (h.old l (List.mem_of_getElem? hh)).2
theorem cutW_size {r : Wr} {n : Nat} {was : ByteArray} (h1 : r.data.size = 140) (h2 : was.size = 140) (hn : n ≤ 140) : (cutW r n was).size = 140 := by
  unfold cutW
  rw [ByteArray.size_append, ByteArray.size_extract, ByteArray.size_extract]
  omega
theorem changeD_ok {D : Dev} (h : D.Ok) {i : Nat} {s : ByteArray} (hi : i < D.st.length) (hs : s.size = 140) : (changeD D i s).Ok := by
  unfold changeD
  split
  · exact h
  · refine ⟨by simp [h.len], by simp [h.pos], by simpa using h.lim, ?_, ?_, fun r hr => by simpa using h.pend r hr, h.fen⟩
    · intro t ht
      rcases List.mem_or_eq_of_mem_set ht with ht | rfl
      · exact h.st t ht
      · exact hs
    · intro l hl
      rcases List.mem_or_eq_of_mem_set hl with hl | rfl
      · exact h.old l hl
      · refine ⟨by simp; omega, fun t ht => ?_⟩
        have := List.mem_of_mem_take ht
        rcases List.mem_cons.1 this with rfl | h9
        · exact at_size h hi
        · exact olds_size h i t h9
theorem changeD_len (D : Dev) (i : Nat) (s : ByteArray) : (changeD D i s).st.length = D.st.length := by unfold changeD; split <;> simp
theorem changeD_pend (D : Dev) (i : Nat) (s : ByteArray) : (changeD D i s).pend = D.pend := by unfold changeD; split <;> rfl
theorem changeD_fen (D : Dev) (i : Nat) (s : ByteArray) : (changeD D i s).fen = D.fen := by unfold changeD; split <;> rfl
theorem changeD_fuse (D : Dev) (i : Nat) (s : ByteArray) : (changeD D i s).fuse = D.fuse := by unfold changeD; split <;> rfl
theorem changeD_failed (D : Dev) (i : Nat) (s : ByteArray) : (changeD D i s).failed = D.failed := by unfold changeD; split <;> rfl
/-- What the ends of writes keep. -/
structure EndKept (D E : Dev) : Prop where
  ok : E.Ok
  len : E.st.length = D.st.length
  pend : E.pend = D.pend
  fen : E.fen = D.fen
  fuse : E.fuse = D.fuse
  failed : E.failed = D.failed
theorem endStep_kept {D : Dev} (p : Wr → Bool) (sv : Nat → Nat) (hsv : ∀ k, sv k ≤ 140) {E : Dev} {k : Nat} (h : EndKept D E) (r : Wr) (hr : r.sec < D.st.length ∧ r.data.size = 140) : EndKept D (endStep p sv (E, k) r).1 := by
  unfold endStep
  split
  · have h1 : r.sec < E.st.length := by rw [h.len]; exact hr.1
    exact ⟨changeD_ok h.ok h1 (cutW_size hr.2 (at_size h.ok h1) (hsv _)), by rw [changeD_len, h.len], by rw [changeD_pend, h.pend], by rw [changeD_fen, h.fen], by rw [changeD_fuse, h.fuse], by rw [changeD_failed, h.failed]⟩
  · exact h
theorem run_kept {D : Dev} (h : D.Ok) (p : Wr → Bool) (sv : Nat → Nat) (hsv : ∀ k, sv k ≤ 140) : ∀ (l : List Wr) (s : Dev × Nat), EndKept D s.1 → (∀ r ∈ l, r.sec < D.st.length ∧ r.data.size = 140) → EndKept D (l.foldl (endStep p sv) s).1
  | [], _, hs, _ => hs
  | r :: l, s, hs, hl => run_kept h p sv hsv l _ (endStep_kept p sv hsv (k := s.2) hs r (hl r (List.mem_cons_self ..))) (fun x hx => hl x (List.mem_cons_of_mem _ hx))
theorem runEnd_kept {D : Dev} (h : D.Ok) (p : Wr → Bool) (sv : Nat → Nat) (hsv : ∀ k, sv k ≤ 140) (l : List Wr) (hl : ∀ r ∈ l, r ∈ D.pend) : EndKept D (runEnd D p sv l).1 :=
  run_kept h p sv hsv l (D, 0) ⟨h, rfl, rfl, rfl, rfl, rfl⟩ (fun r hr => ⟨(h.pend r (hl r hr)).1, (h.pend r (hl r hr)).2.1⟩)
theorem runEnd_snoc (D : Dev) (p : Wr → Bool) (sv : Nat → Nat) (l : List Wr) (k : Nat) (hk : k < l.length) : runEnd D p sv (l.take (k + 1)) = endStep p sv (runEnd D p sv (l.take k)) l[k] := by
  unfold runEnd
  rw [List.take_succ_eq_append_getElem hk, List.foldl_append]; rfl
theorem runEnd_cnt (D : Dev) (p : Wr → Bool) (sv : Nat → Nat) (l : List Wr) : (runEnd D p sv l).2 = (l.filter p).length := by
  have key : ∀ (l : List Wr) (s : Dev × Nat), (l.foldl (endStep p sv) s).2 = s.2 + (l.filter p).length := by
    intro l
    induction l with
    | nil => intro s; simp
    | cons r l ih =>
      intro s
      rw [List.foldl_cons, ih, List.filter_cons]
      unfold endStep
      cases p r <;> simp <;> omega
  unfold runEnd
  rw [key]; simp
/-- The number of writes and syncs goes down, or the device fails. -/
def useD (D : Dev) : Dev × Bool :=
  match D.fuse with
  | none => (D, false)
  | some (n + 1, l) => ({ D with fuse := some (n, l) }, false)
  | some (0, l) => ({ finishD D (fun _ => true) (svN l) with failed := true, fuse := none }, true)
def admitD (D : Dev) (sys ep : Int) : Dev × Int :=
  if D.failed then (D, 10) else if ep < D.fen sys then (D, 13) else if (useD D).2 then ((useD D).1, 10) else ((useD D).1, 0)
def plainW (sys ep : Int) : Bool := decide (1 ≤ sys ∧ sys ≤ 4 ∧ 0 ≤ ep ∧ ep ≤ 1099511627776)
def thereD (D : Dev) (i : Int) : Bool := decide (0 ≤ i ∧ i < D.st.length)
def writeD (D : Dev) (sys ep sec : Int) (data : ByteArray) : Dev × Int :=
  if plainW sys ep = false ∨ data.size ≠ 140 then (D, 1) else if thereD D sec = false then (D, 2)
  else if (admitD D sys ep).2 ≠ 0 then admitD D sys ep
  else ({ (admitD D sys ep).1 with pend := (admitD D sys ep).1.pend ++ [⟨sys, sec.toNat, data⟩] }, 0)
def ofSys (s : Int) (r : Wr) : Bool := decide (r.sys = s)
def syncD (D : Dev) (sys ep : Int) : Dev × Int :=
  if plainW sys ep = false then (D, 1) else if (admitD D sys ep).2 ≠ 0 then admitD D sys ep
  else (finishD (admitD D sys ep).1 (ofSys sys) (fun _ => 140), 0)
def clipE (e : Int) : Int := if e < 0 then 0 else min e 1099511627776 + 1
def fenceD (D : Dev) (sys ep : Int) : Dev := if sys < 1 ∨ 4 < sys then D else { D with fen := fun s => if s = sys then max (D.fen sys) (clipE ep) else D.fen s }
def failD (D : Dev) (n : Int) (l : List Int) : Dev := if D.failed then D else { D with fuse := some ((max 0 n).toNat, l) }
def repairD (D : Dev) : Dev := { D with failed := false, fuse := none }
def readD (D : Dev) (i : Int) : ByteArray × Int :=
  if thereD D i = false then (emp, 2) else if D.failed then (emp, 10) else (D.content i.toNat, 0)
end Go.Proofs.Ytbddelefglhaaaa
namespace Go.Proofs.Ytbddelefglhaaaa
set_option linter.unusedVariables false
set_option linter.unusedSimpArgs false
set_option linter.unusedSectionVars false
open Go.RowKit Go.MapKept
open Go.Maps (Keyed)
/-- A function of keys, changed at one. -/
def upd {α β : Type} [DecidableEq α] (F : α → β) (a : α) (b : β) : α → β := fun x => if x = a then b else F x
theorem upd_same {α β : Type} [DecidableEq α] (F : α → β) (a : α) (b : β) : upd F a b a = b := if_pos rfl
theorem upd_other {α β : Type} [DecidableEq α] (F : α → β) {a x : α} (b : β) (h : x ≠ a) : upd F a b x = F x := if_neg h
theorem nodup_at {α : Type} {l : List α} (h : l.Nodup) {i j : Nat} {a : α} (hi : l[i]? = some a) (hj : l[j]? = some a) : i = j := by
  obtain ⟨hi1, e1⟩ := List.getElem?_eq_some_iff.1 hi
  obtain ⟨hj1, e2⟩ := List.getElem?_eq_some_iff.1 hj
  rcases Nat.lt_trichotomy i j with h1 | h1 | h1
  · exact absurd (e1.trans e2.symm) (List.pairwise_iff_getElem.1 h i j hi1 hj1 h1)
  · exact h1
  · exact absurd (e2.trans e1.symm) (List.pairwise_iff_getElem.1 h j i hj1 hi1 h1)
/-- Block m is a map whose keys are 'kv a'; at a it holds F a. -/
def MapIs {α : Type} (P : Program) (k : TypeId) (kv : α → Value) (w : World) (m : Nat) (F : α → Option Value) : Prop :=
  ∃ (es : Array MapEntry) (clock : Nat) (l : List (α × Value)), w.heap[m]? = some (.map es clock) ∧ es.toList.map (fun e => (e.key, e.val)) = l.map (fun p => (kv p.1, p.2)) ∧ (l.map (·.1)).Nodup ∧ (∀ p ∈ l, ∃ x, keyOf P k (kv p.1) = some x) ∧ (∀ a v, F a = some v ↔ (a, v) ∈ l) ∧ (∀ x ∈ es.toList, x.born < clock) ∧ (es.toList.map (·.born)).Nodup
section
variable {α : Type} {P : Program} {k : TypeId} {kv : α → Value} {w w' : World} {m : Nat} {F : α → Option Value}
theorem MapIs.lt (h : MapIs P k kv w m F) : m < w.heap.size := by
  obtain ⟨es, clock, l, hb, _⟩ := h
  rcases Nat.lt_or_ge m w.heap.size with hlt | hge
  · exact hlt
  · rw [Array.getElem?_eq_none hge] at hb; cases hb
theorem MapIs.same (h : MapIs P k kv w m F) (e : w'.heap[m]? = w.heap[m]?) : MapIs P k kv w' m F := by
  obtain ⟨es, clock, l, hb, hr⟩ := h
  exact ⟨es, clock, l, e.trans hb, hr⟩
theorem MapIs.alloc (h : MapIs P k kv w m F) (o : Obj) : MapIs P k kv (w.alloc o) m F := h.same (Below.heap_alloc w o m h.lt)
theorem MapIs.drew (h : MapIs P k kv w m F) : MapIs P k kv w.drew m F := h
theorem MapIs.drewN (h : MapIs P k kv w m F) (n : Nat) : MapIs P k kv (w.drewN n) m F := h
theorem MapIs.far (h : MapIs P k kv w m F) {p : Addr} (hp : m ≠ p.block) (u : Value) : MapIs P k kv (w.setCell p u) m F := h.same (Below.heap_setCell w p u m hp)
theorem MapIs.turned (h : MapIs P k kv w m F) {S : Nat → Prop} (ht : Turned S w w') (hS : ¬ S m) : MapIs P k kv w' m F := h.same (ht.block m h.lt hS)
theorem MapIs.grew (h : MapIs P k kv w m F) (hg : Grew w w') : MapIs P k kv w' m F := h.same (hg.block m h.lt)
theorem MapIs.congr (h : MapIs P k kv w m F) {G : α → Option Value} (e : ∀ a, F a = G a) : MapIs P k kv w m G := by
  have : F = G := funext e
  rwa [← this]
theorem MapIs.made (w : World) {n : Nat} (hn : n = w.heap.size) : MapIs P k kv (w.alloc (.map #[] 0)) n (fun _ => none) := by
  subst hn
  exact ⟨#[], 0, [], heap_alloc_new w _, rfl, by simp, by simp, by simp, by simp, by simp⟩
theorem heap_set_other (w : World) (m i : Nat) (o : Obj) (h : i ≠ m) : (w.heap.setIfInBounds m o)[i]? = w.heap[i]? := by
  rw [Array.getElem?_setIfInBounds]; rw [if_neg (fun e => h e.symm)]
theorem heap_set_self (w : World) (m : Nat) (o : Obj) (h : m < w.heap.size) : (w.heap.setIfInBounds m o)[m]? = some o := by
  rw [Array.getElem?_setIfInBounds, if_pos rfl, if_pos h]
theorem setObj_turned (w : World) (m : Nat) (o : Obj) : Turned (fun x => x = m) w { w with heap := w.heap.setIfInBounds m o } :=
  ⟨rfl, rfl, rfl, by simp, fun i _ hi => heap_set_other w m i o hi⟩
variable (K : Keyed P k) (hinj : ∀ a b, kv a = kv b → a = b)
include K hinj
/-- The entry of a key. -/
theorem find_is {es : Array MapEntry} {l : List (α × Value)} (he : es.toList.map (fun e => (e.key, e.val)) = l.map (fun p => (kv p.1, p.2))) (hnd : (l.map (·.1)).Nodup) (hok : ∀ p ∈ l, ∃ x, keyOf P k (kv p.1) = some x)
    (hF : ∀ a v, F a = some v ↔ (a, v) ∈ l) (w : World) (a : α) {x : Lit} (hx : keyOf P k (kv a) = some x) :
    ((Instr.findKey k (kv a) es.toList).run P w = .ok none w ∧ F a = none) ∨ ∃ j v, (Instr.findKey k (kv a) es.toList).run P w = .ok (some (j, v)) w ∧ F a = some v ∧ l[j]? = some (a, v) := by
  have hall : ∀ e ∈ es.toList, ∃ l, keyOf P k e.key = some l := by
    intro e hee
    have hm : (e.key, e.val) ∈ es.toList.map (fun e => (e.key, e.val)) := List.mem_map_of_mem hee
    rw [he] at hm
    obtain ⟨p, hp, hpe⟩ := List.mem_map.1 hm
    injection hpe with h1 _
    rw [← h1]
    exact hok p hp
  rcases K.find w hx es.toList hall with ⟨h1, h2⟩ | ⟨j, e, h1, h2, h3⟩
  · refine .inl ⟨h1, ?_⟩
    cases hFa : F a with
    | none => rfl
    | some v =>
      exfalso
      have hm := (hF a v).1 hFa
      have hm' : (kv a, v) ∈ l.map (fun p => (kv p.1, p.2)) := List.mem_map.2 ⟨(a, v), hm, rfl⟩
      rw [← he] at hm'
      obtain ⟨e, hee, hek⟩ := List.mem_map.1 hm'
      injection hek with hk1 _
      exact h2 e hee hk1
  · refine .inr ⟨j, e.val, h1, ?_, ?_⟩
    · have hj : (es.toList.map (fun e => (e.key, e.val)))[j]? = some (e.key, e.val) := by rw [List.getElem?_map, h2]; rfl
      rw [he, List.getElem?_map] at hj
      cases hq : l[j]? with
      | none => rw [hq] at hj; cases hj
      | some p =>
        rw [hq] at hj
        injection hj with hj
        injection hj with hj1 hj2
        have hpa : p.1 = a := hinj _ _ (hj1.trans h3)
        exact (hF a e.val).2 (by rw [← hpa, ← hj2]; exact List.mem_of_getElem? hq)
    · have hj : (es.toList.map (fun e => (e.key, e.val)))[j]? = some (e.key, e.val) := by rw [List.getElem?_map, h2]; rfl
      rw [he, List.getElem?_map] at hj
      cases hq : l[j]? with
      | none => rw [hq] at hj; cases hj
      | some p =>
        rw [hq] at hj
        injection hj with hj
        injection hj with hj1 hj2
        have hpa : p.1 = a := hinj _ _ (hj1.trans h3)
        rw [← hpa, ← hj2]
theorem MapIs.lookup_ok (h : MapIs P k kv w m F) {t e : TypeId} {z : Value} (ht : P.underlying t = some (.map k e)) (hz : (zeroValue e).run P w = .ok z w) (a : α) {x : Lit} (hx : keyOf P k (kv a) = some x) :
    (Instr.lookup t (.map (some m)) (kv a) true).run P w = .ok (.tuple #[(F a).getD z, .bool (F a).isSome]) w := by
  obtain ⟨es, clock, l, hb, he, hnd, hok, hF, hS1, hS2⟩ := h
  rcases find_is K hinj he hnd hok hF w a hx with ⟨h1, h2⟩ | ⟨j, v, h1, h2, _⟩
  · simp [Instr.lookup, run_underlying ht, Go.MapKept.run_getObj_map hb, K.check w _ hx, h1, h2, hz]
  · simp [Instr.lookup, run_underlying ht, Go.MapKept.run_getObj_map hb, K.check w _ hx, h1, h2]
theorem MapIs.lookup_val (h : MapIs P k kv w m F) {t e : TypeId} {z : Value} (ht : P.underlying t = some (.map k e)) (hz : (zeroValue e).run P w = .ok z w) (a : α) {x : Lit} (hx : keyOf P k (kv a) = some x) :
    (Instr.lookup t (.map (some m)) (kv a) false).run P w = .ok ((F a).getD z) w := by
  obtain ⟨es, clock, l, hb, he, hnd, hok, hF, hS1, hS2⟩ := h
  rcases find_is K hinj he hnd hok hF w a hx with ⟨h1, h2⟩ | ⟨j, v, h1, h2, _⟩
  · simp [Instr.lookup, run_underlying ht, Go.MapKept.run_getObj_map hb, K.check w _ hx, h1, h2, hz]
  · simp [Instr.lookup, run_underlying ht, Go.MapKept.run_getObj_map hb, K.check w _ hx, h1, h2]
theorem MapIs.update [DecidableEq α] (h : MapIs P k kv w m F) {t e : TypeId} (ht : P.underlying t = some (.map k e)) (a : α) {x : Lit} (hx : keyOf P k (kv a) = some x) (v : Value) :
    ∃ w', (Instr.mapUpdate t (.map (some m)) (kv a) v).run P w = .ok () w' ∧ MapIs P k kv w' m (upd F a (some v)) ∧ Turned (fun x => x = m) w w' := by
  obtain ⟨es, clock, l, hb, he, hnd, hok, hF, hS1, hS2⟩ := h
  have hlt : m < w.heap.size := MapIs.lt (P := P) (k := k) (kv := kv) (F := F) ⟨es, clock, l, hb, he, hnd, hok, hF, hS1, hS2⟩
  rcases find_is K hinj he hnd hok hF w a hx with ⟨h1, h2⟩ | ⟨j, v0, h1, h2, hj⟩
  · refine ⟨_, ?_, ?_, setObj_turned w m (.map (es.push { key := kv a, val := v, born := clock }) (clock + 1))⟩
    · simp [Instr.mapUpdate, run_underlying ht, Go.MapKept.run_getObj_map hb, K.check w _ hx, h1, Go.MapKept.run_setObj_map _ hb]
    · have hna : ∀ v, (a, v) ∉ l := fun v hv => by have := (hF a v).2 hv; rw [h2] at this; cases this
      refine ⟨_, _, l ++ [(a, v)], heap_set_self w m _ hlt, by simp [he], ?_, ?_, ?_, ?_, ?_⟩
      · rw [List.map_append, List.nodup_append]
        refine ⟨hnd, by simp, fun y hy z hz e => ?_⟩
        simp at hz
        subst hz
        subst e
        obtain ⟨p, hp, hpe⟩ := List.mem_map.1 hy
        exact hna p.2 (by rw [← hpe]; exact hp)
      · intro p hp
        rcases List.mem_append.1 hp with hp | hp
        · exact hok p hp
        · rw [List.mem_singleton.1 hp]; exact ⟨x, hx⟩
      · intro b u
        rw [List.mem_append]
        by_cases hba : b = a
        · subst hba
          rw [upd_same]
          simp [hna]
          exact eq_comm
        · rw [upd_other _ _ hba, hF b u]
          simp [hba]
      · intro y hy
        rw [Array.toList_push] at hy
        rcases List.mem_append.1 hy with hy | hy
        · have := hS1 y hy; omega
        · rw [List.mem_singleton.1 hy]; exact Nat.lt_succ_self _
      · rw [Array.toList_push, List.map_append, List.nodup_append]
        refine ⟨hS2, by simp, fun y hy z hz e => ?_⟩
        simp at hz
        subst hz
        subst e
        obtain ⟨q, hq, hqe⟩ := List.mem_map.1 hy
        have := hS1 q hq
        omega
  · have hjl : j < es.size := by
      have := (List.getElem?_eq_some_iff.1 hj).1
      have hlen := congrArg List.length he
      simp at hlen
      omega
    have hkj : (es[j]'hjl).key = kv a := by
      have hq : (es.toList.map (fun e => (e.key, e.val)))[j]? = (l.map (fun p => (kv p.1, p.2)))[j]? := by rw [he]
      rw [List.getElem?_map, List.getElem?_map, hj] at hq
      rw [Array.getElem?_toList, Array.getElem?_eq_getElem hjl] at hq
      simp at hq
      exact hq.1
    refine ⟨_, ?_, ?_, setObj_turned w m (.map (es.modify j fun e => { e with key := kv a, val := v }) clock)⟩
    · simp [Instr.mapUpdate, run_underlying ht, Go.MapKept.run_getObj_map hb, K.check w _ hx, h1, Go.MapKept.run_setObj_map _ hb, hjl, hkj, K.stays w hx]
    · have hbo : (es.modify j fun e => { e with key := kv a, val := v }).toList.map (·.born) = es.toList.map (·.born) := by
        apply List.ext_getElem?
        intro i
        rw [List.getElem?_map, List.getElem?_map, Array.getElem?_toList, Array.getElem?_toList, Array.getElem?_modify]
        by_cases hij : j = i
        · subst hij
          rw [if_pos rfl, Array.getElem?_eq_getElem hjl]; rfl
        · rw [if_neg hij]
      refine ⟨_, _, l.set j (a, v), heap_set_self w m _ hlt, ?_, ?_, ?_, ?_, ?_, by rw [hbo]; exact hS2⟩
      · apply List.ext_getElem?
        intro i
        have hi := congrArg (fun z => z[i]?) he
        simp only [List.getElem?_map, Array.getElem?_toList] at hi
        rw [List.getElem?_map, List.getElem?_map, Array.getElem?_toList, Array.getElem?_modify, List.getElem?_set]
        by_cases hij : j = i
        · subst hij
          rw [if_pos rfl, if_pos rfl, if_pos (List.getElem?_eq_some_iff.1 hj).1, Array.getElem?_eq_getElem hjl]
          rfl
        · rw [if_neg hij, if_neg hij]
          exact hi
      · rw [List.map_set]
        have : (l.map (·.1)).set j a = l.map (·.1) := by
          apply List.ext_getElem?
          intro i
          rw [List.getElem?_set]
          by_cases hij : j = i
          · subst hij
            rw [if_pos rfl, List.getElem?_map, hj]
            have : j < (l.map (·.1)).length := by rw [List.length_map]; exact (List.getElem?_eq_some_iff.1 hj).1
            rw [if_pos this]
            rfl
          · rw [if_neg hij]
        rw [this]
        exact hnd
      · intro p hp
        rcases List.mem_or_eq_of_mem_set hp with hp | rfl
        · exact hok p hp
        · exact ⟨x, hx⟩
      · intro b u
        have hjl2 := (List.getElem?_eq_some_iff.1 hj).1
        have huniq : ∀ i q, l[i]? = some q → q.1 = a → i = j := by
          intro i q hi hq
          have h1 : (l.map (·.1))[i]? = some a := by rw [List.getElem?_map, hi]; simp [hq]
          have h2 : (l.map (·.1))[j]? = some a := by rw [List.getElem?_map, hj]; rfl
          exact nodup_at hnd h1 h2
        by_cases hba : b = a
        · subst hba
          rw [upd_same, List.mem_iff_getElem?]
          constructor
          · intro e
            injection e with e
            subst e
            exact ⟨j, by rw [List.getElem?_set_self hjl2]⟩
          · rintro ⟨i, hi⟩
            rw [List.getElem?_set] at hi
            by_cases hij : j = i
            · rw [if_pos hij, if_pos (by omega)] at hi
              injection hi with hi
              injection hi with _ hi
              rw [hi]
            · rw [if_neg hij] at hi
              exact absurd (huniq i _ hi rfl).symm hij
        · rw [upd_other _ _ hba, hF b u, List.mem_iff_getElem?, List.mem_iff_getElem?]
          constructor
          · rintro ⟨i, hi⟩
            refine ⟨i, ?_⟩
            rw [List.getElem?_set, if_neg]
            · exact hi
            · rintro rfl
              rw [hj] at hi
              injection hi with hi
              injection hi with hi _
              exact hba hi.symm
          · rintro ⟨i, hi⟩
            rw [List.getElem?_set] at hi
            by_cases hij : j = i
            · rw [if_pos hij, if_pos (by omega)] at hi
              injection hi with hi
              injection hi with hi _
              exact absurd hi.symm hba
            · rw [if_neg hij] at hi
              exact ⟨i, hi⟩
      · intro y hy
        have h9 : y.born ∈ es.toList.map (·.born) := by rw [← hbo]; exact List.mem_map_of_mem hy
        obtain ⟨q, hq, hqe⟩ := List.mem_map.1 h9
        have := hS1 q hq
        omega
end
section
variable {α : Type} {P : Program} {k : TypeId} {kv : α → Value} {w : World} {m : Nat} {F : α → Option Value}
theorem wp_mapUpdate_is [DecidableEq α] {o : Oper} {a : Act} {Kp : Act → World → Prop} {Q : Exit → Act → World → Prop} (mo x v : Operand) (t : TypeId) (hop : o.op = Op.mapUpdate t mo x v)
    (e : TypeId) (K : Keyed P k) (hinj : ∀ a b, kv a = kv b → a = b) (ht : P.underlying t = some (.map k e)) (hm : a.eval mo = .map (some m)) (h : MapIs P k kv w m F) (key : α) {kl : Lit} (hkey : keyOf P k (kv key) = some kl) (val : Value) (hx : a.eval x = kv key) (hv : a.eval v = val)
    (hK : ∀ w', MapIs P k kv w' m (upd F key (some val)) → Turned (fun x => x = m) w w' → Kp (a.put o.dst undef) w') : o.wp P a w Kp Q := by
  obtain ⟨w', hrun, r1, r2⟩ := h.update K hinj ht key hkey val
  unfold Oper.wp
  simp [execOp, hop, hm, hx, hv, hrun, Result.andThen]
  exact hK w' r1 r2
theorem wpList_mapUpdate_is [DecidableEq α] {ops : Array Oper} {rest : List Oper} {o : Oper} {a : Act} {Q : Exit → Act → World → Prop} (hg : o.guard = none) (mo x v : Operand) (t : TypeId) (hop : o.op = Op.mapUpdate t mo x v)
    (e : TypeId) (K : Keyed P k) (hinj : ∀ a b, kv a = kv b → a = b) (ht : P.underlying t = some (.map k e)) (hm : a.eval mo = .map (some m)) (h : MapIs P k kv w m F) (key : α) {kl : Lit} (hkey : keyOf P k (kv key) = some kl) (val : Value) (hx : a.eval x = kv key) (hv : a.eval v = val)
    (hK : ∀ w', MapIs P k kv w' m (upd F key (some val)) → Turned (fun x => x = m) w w' → wpList P ops Q rest (a.put o.dst undef) w') : wpList P ops Q (o :: rest) a w :=
  wpList_plain hg fun _ hk => wp_mapUpdate_is mo x v t hop e K hinj ht hm h key hkey val hx hv fun w' h1 h2 => hk _ _ (hK w' h1 h2)
end
/-- 'for k, v := range m' under way: S tells which keys have come. -/
def MapIt {α : Type} (P : Program) (k : TypeId) (kv : α → Value) (w : World) (m r : Nat) (F : α → Option Value) (S : α → Bool) (cnt : Nat) : Prop :=
  ∃ (es : Array MapEntry) (clock : Nat) (l : List (α × Value)) (since : Nat) (seen : Array Nat) (c0 : Nat), w.heap[m]? = some (.map es clock) ∧ es.toList.map (fun e => (e.key, e.val)) = l.map (fun p => (kv p.1, p.2)) ∧ (l.map (·.1)).Nodup ∧ ((∀ p ∈ l, ∃ x, keyOf P k (kv p.1) = some x) ∧ ∀ a v, F a = some v ↔ (a, v) ∈ l) ∧
    w.heap[r]? = some (.mapIter (some m) since seen c0) ∧ (∀ x ∈ es.toList, x.born < since) ∧ (es.toList.map (·.born)).Nodup ∧ since ≤ c0 ∧ since ≤ clock ∧ (leftOf es seen).size = cnt ∧ ∀ (i : Nat) (x : MapEntry) (p : α × Value), es.toList[i]? = some x → l[i]? = some p → S p.1 = seen.contains x.born
section
variable {α : Type} {P : Program} {k : TypeId} {kv : α → Value} {w w' : World} {m r cnt : Nat} {F : α → Option Value} {S : α → Bool}
theorem MapIt.kept (h : MapIt P k kv w m r F S cnt) (hm : w'.heap[m]? = w.heap[m]?) (hr : w'.heap[r]? = w.heap[r]?) : MapIt P k kv w' m r F S cnt := by
  obtain ⟨es, clock, l, since, seen, c0, h1, h2, h3, h4, h5, h6⟩ := h
  exact ⟨es, clock, l, since, seen, c0, hm.trans h1, h2, h3, h4, hr.trans h5, h6⟩
theorem MapIt.lt (h : MapIt P k kv w m r F S cnt) : m < w.heap.size ∧ r < w.heap.size := by
  obtain ⟨es, clock, l, since, seen, c0, h1, h2, h3, h4, h5, h6⟩ := h
  exact ⟨(Array.getElem?_eq_some_iff.1 h1).1, (Array.getElem?_eq_some_iff.1 h5).1⟩
theorem MapIt.turned (h : MapIt P k kv w m r F S cnt) {T : Nat → Prop} (ht : Turned T w w') (hm : ¬ T m) (hr : ¬ T r) : MapIt P k kv w' m r F S cnt := h.kept (ht.block m h.lt.1 hm) (ht.block r h.lt.2 hr)
theorem MapIs.range (h : MapIs P k kv w m F) {t e : TypeId} (ht : P.underlying t = some (.map k e)) :
    ∃ w', (Instr.range t (.map (some m))).run P w = .ok (.pointer (some ⟨w.heap.size, 0, none⟩)) w' ∧ (∃ cnt, MapIt P k kv w' m w.heap.size F (fun _ => false) cnt) ∧ Grew w w' ∧ w'.heap.size = w.heap.size + 1 := by
  have hlt := h.lt
  obtain ⟨es, clock, l, hb, he, hnd, hok, hF, hS1, hS2⟩ := h
  refine ⟨_, run_range_map w t k e m es clock ht hb, ⟨_, es, clock, l, clock, #[], clock, (Below.heap_alloc w _ m hlt).trans hb, he, hnd, ⟨hok, hF⟩, heap_alloc_new w _, hS1, hS2, Nat.le_refl _, Nat.le_refl _, rfl, fun i x p _ _ => by simp⟩, (Grew.refl w).alloc _, by simp⟩
theorem MapIt.next [DecidableEq α] (h : MapIt P k kv w m r F S cnt) (hne : m ≠ r) (ty : TypeId) :
    ((∀ a v, F a = some v → S a = true) ∧ (Instr.next (.pointer (some ⟨r, 0, none⟩)) false ty).run P w = .ok (.tuple #[.bool false]) w) ∨
    ∃ a v w' cnt', (∃ x, keyOf P k (kv a) = some x) ∧ F a = some v ∧ S a = false ∧ (Instr.next (.pointer (some ⟨r, 0, none⟩)) false ty).run P w = .ok (.tuple #[.bool true, kv a, v]) w' ∧ MapIt P k kv w' m r F (upd S a true) cnt' ∧ cnt' < cnt ∧ Turned (fun x => x = r) w w' ∧
      (Instr.entry (.pointer (some ⟨r, 0, none⟩))).run P w' = .ok (.tuple #[kv a, v]) w' := by
  obtain ⟨es, clock, l, since, seen, c0, hb, he, hnd, ⟨hok, hF⟩, hr, hold, hbn, hsc, hsk, rfl, hS⟩ := h
  have hlen : es.toList.length = l.length := by have := congrArg List.length he; simpa using this
  rcases run_next_at (P := P) w ty r m since c0 seen es clock hr hb hold hsc with ⟨h0, hrun⟩ | ⟨e, hem, w1, hal, hrun⟩
  · refine .inl ⟨fun a v hav => ?_, hrun⟩
    obtain ⟨i, hi, hil⟩ := List.mem_iff_getElem.1 ((hF a v).1 hav)
    have hie : i < es.toList.length := by omega
    have := hS i _ _ (List.getElem?_eq_getElem hie) (List.getElem?_eq_getElem hi)
    rw [hil] at this
    rw [this]
    exact all_seen es seen h0 _ (List.getElem_mem hie)
  · obtain ⟨he1, hes⟩ := mem_left hem
    obtain ⟨i, hi, hie⟩ := List.mem_iff_getElem.1 he1
    have hil : i < l.length := by omega
    have hkv : (e.key, e.val) = (kv l[i].1, l[i].2) := by
      have h9 : (es.toList.map (fun e => (e.key, e.val)))[i]? = (l.map (fun p => (kv p.1, p.2)))[i]? := by rw [he]
      rw [List.getElem?_map, List.getElem?_map, List.getElem?_eq_getElem hi, List.getElem?_eq_getElem hil, hie] at h9
      simpa using h9
    injection hkv with hk1 hk2
    rw [hk1, hk2] at hrun
    have hr1 : w1.heap[r]? = some (.mapIter (some m) since seen c0) := by rcases hal with rfl | rfl <;> exact hr
    have hb1 : w1.heap[m]? = some (.map es clock) := by rcases hal with rfl | rfl <;> exact hb
    have hset := Go.MapKept.heap_set (o' := .mapIter (some m) since (seen.push e.born) clock) hr1
    have hb' : (Go.ChangeMaps.setBlock w1 r (.mapIter (some m) since (seen.push e.born) clock)).heap[m]? = some (.map es clock) := (hset.2 m hne).trans hb1
    refine .inr ⟨l[i].1, l[i].2, _, _, hok _ (List.getElem_mem hil), (hF _ _).2 (List.getElem_mem hil), ?_, hrun, ⟨es, clock, l, since, seen.push e.born, clock, hb', he, hnd, ⟨hok, hF⟩, hset.1, hold, hbn, hsk, hsk, rfl, fun j x p hj hp => ?_⟩, left_shrinks es seen e hem, ?_, ?_⟩
    · have := hS i _ _ (List.getElem?_eq_getElem hi) (List.getElem?_eq_getElem hil)
      rw [this, hie]; exact hes
    · rw [contains_push]
      have h1 := hS j x p hj hp
      by_cases hpa : p.1 = l[i].1
      · have hji : j = i := nodup_at hnd (a := l[i].1) (by rw [List.getElem?_map, hp]; simp [hpa]) (by rw [List.getElem?_map, List.getElem?_eq_getElem hil]; rfl)
        subst hji
        rw [List.getElem?_eq_getElem hi, hie] at hj
        injection hj with hj
        rw [hpa, upd_same, ← hj]
        simp
      · rw [upd_other _ _ hpa, h1]
        have hxe : x.born ≠ e.born := fun h9 => by
          have hxm : x ∈ es.toList := List.mem_of_getElem? hj
          have hx9 := born_inj hbn hxm he1 h9
          have hji : j = i := by
            have hj' := (List.getElem?_eq_some_iff.1 hj).1
            have b1 : (es.toList.map (·.born))[j]? = some e.born := by rw [List.getElem?_map, hj, hx9]; rfl
            have b2 : (es.toList.map (·.born))[i]? = some e.born := by rw [List.getElem?_map, List.getElem?_eq_getElem hi, hie]; rfl
            exact nodup_at hbn b1 b2
          subst hji
          rw [List.getElem?_eq_getElem hil] at hp
          injection hp with hp
          exact hpa (by rw [hp])
        rw [show (x.born == e.born) = false from beq_eq_false_iff_ne.2 hxe, Bool.or_false]
    · rcases hal with rfl | rfl <;> exact ⟨rfl, rfl, rfl, by simp [Go.ChangeMaps.setBlock], fun i _ hi => hset.2 i hi⟩
    · have := run_entry_at (P := P) _ r m since seen es clock e hset.1 hb' he1 hbn
      rw [hk1, hk2] at this
      exact this
end
end Go.Proofs.Ytbddelefglhaaaa
namespace Go.Proofs.Ytbddelefglhaaaa
set_option linter.unusedVariables false
set_option linter.unusedSimpArgs false
set_option linter.unusedSectionVars false
open Go.ChangeShapes Go.WideShapes Go.ChangeAt Go.RowKit Go.Deep
/-- A slice in memory: element j's cells lie from 'off + j * sz' on. -/
def ListAt (w : World) (B sz : Nat) (A : Option Addr) (cells : List (List Value)) : Prop :=
  0 < cells.length → ∃ b off, A = some ⟨b, off, none⟩ ∧ b < B ∧ ∀ j cs, cells[j]? = some cs → ∀ i v, cs[i]? = some v → w.cell? ⟨b, off + j * sz + i, none⟩ = some v
theorem ListAt.keep {w w' : World} {B sz : Nat} {A : Option Addr} {cells : List (List Value)} (h : ListAt w B sz A cells) (hB : B ≤ w.heap.size) (hk : Grew w w') : ListAt w' B sz A cells :=
  fun hl => by
    obtain ⟨b, off, e, hb, hc⟩ := h hl
    exact ⟨b, off, e, hb, fun j cs hj i v hi => by rw [hk.cellEq _ _ (by omega)]; exact hc j cs hj i v hi⟩
theorem ListAt.mono {w : World} {B B' sz : Nat} {A : Option Addr} {cells : List (List Value)} (h : ListAt w B sz A cells) (hB : B ≤ B') : ListAt w B' sz A cells :=
  fun hl => by
    obtain ⟨b, off, e, hb, hc⟩ := h hl
    exact ⟨b, off, e, by omega, hc⟩
theorem cell_lt {w : World} {a : Addr} {v : Value} (h : w.cell? a = some v) : a.block < w.heap.size ∧ a.spot = none := by
  unfold World.cell? at h
  constructor
  · rcases Nat.lt_or_ge a.block w.heap.size with hlt | hge
    · exact hlt
    · rw [Array.getElem?_eq_none hge] at h; cases h
  · split at h
    · split at h
      · cases h
      · rename_i hs
        cases hsp : a.spot with
        | none => rfl
        | some x => rw [hsp] at hs; exact absurd rfl hs
    · cases h
theorem add_plain (b off n : Nat) : (⟨b, off, none⟩ : Addr).add n = ⟨b, off + n, none⟩ := by unfold Addr.add; split <;> simp_all
section
variable {H : Type} {enc : TypeId × Value → H} {P : Program} {w : World}
theorem open_list {α : Type} [Inhabited α] {r : Reach} {b0 t e : Nat} {sz : Nat} {v : Value} {d : DataW H} {ps : List MemPlace} (ht : P.underlying t = some (.slice e)) (hsz : P.cellsOf e = sz) (hpos : 0 < sz) (f : α → List Value) (Pr : α → Prop)
    (hel : ∀ n cs y, cs.length = sz → DataW.trod enc P w 0 (fun _ => true) true n e cs = some y → ∃ a, Pr a ∧ cs = f a)
    (hv : Value.okWide P w r b0 t v) (hd : DataW.Trod enc P w 0 (fun _ => true) true t v d ps) :
    ∃ A c, ∃ l : List α, v = .slice A l.length c ∧ l.length ≤ c ∧ c ≤ 9223372036854775807 ∧ (∀ a ∈ l, Pr a) ∧ ListAt w w.heap.size sz A (l.map f) := by
  obtain ⟨A, n, c, rfl⟩ := okWide_slice ht hv
  obtain ⟨fuel, hf⟩ := hd
  rcases open_slice ht hf with ⟨h0, _⟩ | ⟨a, len, cap, m, n', D, Pl, hcs, hb, hl, hm, hmm, hx, hi⟩
  · simp only [Value.cells, List.cons.injEq, and_true] at h0
    injection h0 with h1 h2 h3
    subst h1; subst h2; subst h3
    exact ⟨none, 0, [], rfl, by simp, by simp, by simp, fun h => absurd h (by simp)⟩
  · simp only [Value.cells, List.cons.injEq, and_true] at hcs
    injection hcs with h1 h2 h3
    subst h1; subst h2; subst h3
    rw [if_pos rfl] at hmm
    have hlm : n ≤ m := by omega
    have each : ∀ i, i < n → ∃ x : α, Pr x ∧ ∃ cs, cs = f x ∧ cs.length = sz ∧ w.cells? 0 (a.add (i * sz)) sz = some cs := fun i hin => by
      obtain ⟨cs', hc, ht'⟩ := hi i (by omega)
      rw [hsz] at hc
      have hlen := (World.cells?_some hc).2.1
      obtain ⟨x, hp, hcs⟩ := hel n' cs' _ hlen ht'
      exact ⟨x, hp, cs', hcs, hlen, hc⟩
    obtain ⟨g, hg⟩ := choose_lt each
    refine ⟨some a, c, (List.range n).map g, by simp, by simpa using hl, by unfold maxLen at hm; simpa using hm, ?_, fun h0 => ?_⟩
    · intro x hx
      rw [List.mem_map] at hx
      obtain ⟨i, hi', rfl⟩ := hx
      exact (hg i (List.mem_range.1 hi')).1
    · have hn : 0 < n := by simpa using h0
      obtain ⟨_, cs0, hcs0, hlen0, hc0⟩ := hg 0 hn
      have h1 := (World.cells?_some hc0).2.2 0 hpos
      rw [Nat.zero_mul] at h1
      have hv0 : cs0[0]? = some cs0[0] := List.getElem?_eq_getElem (by omega)
      have ha : (a.add 0).add 0 = a := by simp [Addr.add]
      rw [ha, hv0] at h1
      obtain ⟨hlt, hsp⟩ := cell_lt h1
      obtain ⟨b, off, sp⟩ := a
      simp only at hsp hlt
      subst hsp
      refine ⟨b, off, rfl, hlt, fun j cs hj i v hiv => ?_⟩
      have hjn : j < n := by
        rcases Nat.lt_or_ge j n with h | h
        · exact h
        · rw [List.getElem?_eq_none (by simpa using h)] at hj; cases hj
      obtain ⟨_, cs1, hcs1, hlen1, hc1⟩ := hg j hjn
      have hcs : cs = cs1 := by
        simp [List.getElem?_map, List.getElem?_range, hjn] at hj
        rw [← hj, hcs1]
      subst hcs
      have hil : i < sz := by
        rcases Nat.lt_or_ge i cs.length with h | h
        · omega
        · rw [List.getElem?_eq_none h] at hiv; cases hiv
      have h2 := (World.cells?_some hc1).2.2 i hil
      rw [add_plain, add_plain] at h2
      rw [h2, hiv]
theorem struct_fields {fs : Array Field} {e n : Nat} {cs : List Value} {y : DataW H × List MemPlace} {base : Nat} {sp : Nat → Bool} {hd : Bool} (he : P.underlying e = some (.struct fs)) (hone : oneCellFields P fs = true) (h : DataW.trod enc P w base sp hd n e cs = some y) :
    ∀ (j : Nat) (f : Field), fs[j]? = some f → j < cs.length → ∃ v n' y', cs[j]? = some v ∧ DataW.trod enc P w base sp hd n' f.type [v] = some y' := by
  intro j f hj hjl
  obtain ⟨ys, n', hn', hy, hlen, hyl, hf⟩ := DataW.trod_struct he h
  obtain ⟨ho, hk⟩ := hone_of hone j f hj
  have hjf : j < fs.size := (Array.getElem?_eq_some_iff.1 hj).1
  have h1 := hf j f hj
  rw [ho, hk] at h1
  have hone' : (cs.drop j).take 1 = [cs[j]'hjl] := by
    rw [List.drop_eq_getElem_cons hjl]
    rfl
  rw [hone'] at h1
  have hys : ys[j]? = some (ys[j]'(by omega)) := List.getElem?_eq_getElem (by omega)
  exact ⟨_, _, _, List.getElem?_eq_getElem hjl, h1.trans hys⟩
end
end Go.Proofs.Ytbddelefglhaaaa
namespace Go.Proofs.Ytbddelefglhaaaa
set_option linter.unusedVariables false
set_option linter.unusedSimpArgs false
set_option linter.unusedSectionVars false
open Go.RowKit
/-- The call's own slice v holds the rows, each of 'sz' cells. -/
def OwnL (w : World) (base e sz : Nat) (v : Value) (rows : List (List Value)) : Prop := (∀ r ∈ rows, r.length = sz) ∧ w.ownsRow base e sz v rows.length rows.flatten
theorem flatten_len {rows : List (List Value)} {sz : Nat} (h : ∀ r ∈ rows, r.length = sz) : rows.flatten.length = rows.length * sz := by
  induction rows with
  | nil => simp
  | cons r rows ih =>
    have h1 := h r (by simp)
    have h2 := ih (fun x hx => h x (List.mem_cons_of_mem _ hx))
    simp only [List.flatten_cons, List.length_append, List.length_cons]
    rw [h1, h2, Nat.succ_mul]; omega
theorem OwnL.nil (w : World) (base e sz : Nat) : OwnL w base e sz (.slice none 0 0) [] := ⟨by simp, World.ownsRow_nil w base e sz⟩
theorem OwnL.alloc {w : World} {base e sz : Nat} {v : Value} {rows : List (List Value)} (h : OwnL w base e sz v rows) (o : Obj) : OwnL (w.alloc o) base e sz v rows := ⟨h.1, h.2.alloc o⟩
theorem OwnL.drew {w : World} {base e sz : Nat} {v : Value} {rows : List (List Value)} (h : OwnL w base e sz v rows) : OwnL w.drew base e sz v rows := h
theorem OwnL.drewN {w : World} {base e sz : Nat} {v : Value} {rows : List (List Value)} (h : OwnL w base e sz v rows) (n : Nat) : OwnL (w.drewN n) base e sz v rows := h
theorem OwnL.kept {w w' : World} {base e sz : Nat} {v : Value} {rows : List (List Value)} (h : OwnL w base e sz v rows) {S : Nat → Prop} (ht : Turned S w w') (hS : ∀ g, v.ownBlock = some g → ¬ S g) : OwnL w' base e sz v rows := by
  refine ⟨h.1, h.2.1, ?_⟩
  rcases h.2.2 with h0 | ⟨g, cap, cur, hv, hb, hh, hr⟩
  · exact .inl h0
  · refine .inr ⟨g, cap, cur, hv, hb, ?_, hr⟩
    have hlt : g < w.heap.size := Blk.lt (t := e) (cs := cur) hh
    rw [ht.block g hlt (hS g (by rw [hv]; rfl)), hh]
theorem OwnL.grew {w w' : World} {base e sz : Nat} {v : Value} {rows : List (List Value)} (h : OwnL w base e sz v rows) (ht : Grew w w') : OwnL w' base e sz v rows := h.kept (ht.turned (fun _ => False)) (fun _ _ hf => hf)
theorem OwnL.far {w : World} {base e sz : Nat} {v : Value} {rows : List (List Value)} (h : OwnL w base e sz v rows) {p : Addr} (hp : v.ownBlock ≠ some p.block) (u : Value) : OwnL (w.setCell p u) base e sz v rows :=
  h.kept (S := fun x => x = p.block) ((Turned.refl (fun x => x = p.block) w).setCell (p := p) (fun _ => rfl) u) (fun g hg he => hp (by rw [hg, he]))
theorem OwnL.farRow {w : World} {base e sz : Nat} {v : Value} {rows : List (List Value)} (h : OwnL w base e sz v rows) {g' : Nat} (hp : v.ownBlock ≠ some g') (cs : Array Value) : OwnL (w.setRow g' cs) base e sz v rows :=
  h.kept (S := fun x => x = g') ((Turned.refl (fun x => x = g') w).setRow (g := g') (fun _ => rfl) cs) (fun g hg he => hp (by rw [hg, he]))
theorem OwnL.ne_blk {w : World} {base e sz g : Nat} {t : TypeId} {cs : Array Value} {v : Value} {rows : List (List Value)} (h : OwnL w base e sz v rows) (hb : Blk w g t cs) (hne : e ≠ t) : v.ownBlock ≠ some g := by
  rcases h.2.2 with ⟨rfl, _⟩ | ⟨g', cap, cur, rfl, _, hh, _⟩
  · simp [Value.ownBlock]
  · intro he
    have : g' = g := by simpa [Value.ownBlock] using he
    subst this
    exact Blk.ne_ (t := e) hh hb hne rfl
theorem OwnL.own_ge {w : World} {base e sz g : Nat} {v : Value} {rows : List (List Value)} (h : OwnL w base e sz v rows) (hg : v.ownBlock = some g) : base ≤ g ∧ g < w.heap.size := h.2.lt g hg
theorem OwnL.empty (w : World) (base e sz : Nat) (hb : base ≤ w.heap.size) {n : Nat} (hn : n = w.heap.size) : OwnL (w.alloc (.cells #[] e)) base e sz (.slice (some ⟨n, 0, none⟩) 0 0) [] := by
  subst hn
  exact ⟨by simp, World.ownsRow_lit w #[] 0 hb (by simp) (by simp)⟩
/-- The slice's form, and the cells of its rows. -/
theorem OwnL.form {w : World} {base e sz : Nat} {v : Value} {rows : List (List Value)} (h : OwnL w base e sz v rows) :
    (v = .slice none 0 0 ∧ rows = []) ∨ ∃ g cap, v = .slice (some ⟨g, 0, none⟩) rows.length cap ∧ base ≤ g ∧ g < w.heap.size ∧ rows.length ≤ cap ∧ cap ≤ 9223372036854775807 := by
  rcases h.2.2 with ⟨h0, hn⟩ | ⟨g, cap, cur, hv, hb, hh, hn, hm, _⟩
  · exact .inl ⟨h0, List.length_eq_zero_iff.1 hn⟩
  · exact .inr ⟨g, cap, hv, hb, Blk.lt (t := e) (cs := cur) hh, hn, by unfold maxLen at hm; simpa using hm⟩
theorem flatten_at {rows : List (List Value)} {sz : Nat} (h : ∀ r ∈ rows, r.length = sz) : ∀ (j i : Nat) (r : List Value) (u : Value), rows[j]? = some r → r[i]? = some u → rows.flatten[j * sz + i]? = some u := by
  induction rows with
  | nil => intro j i r u hr; simp at hr
  | cons x rows ih =>
    intro j i r u hr hu
    have hx := h x (by simp)
    rw [List.flatten_cons]
    cases j with
    | zero =>
      simp at hr
      subst hr
      rw [Nat.zero_mul, Nat.zero_add, List.getElem?_append_left (List.getElem?_eq_some_iff.1 hu).1]
      exact hu
    | succ j =>
      simp at hr
      rw [List.getElem?_append_right (by rw [hx, Nat.succ_mul]; omega), hx, show (j + 1) * sz + i - sz = j * sz + i from by rw [Nat.succ_mul]; omega]
      exact ih (fun y hy => h y (List.mem_cons_of_mem _ hy)) j i r u hr hu
theorem OwnL.cell {w : World} {base e sz g n cap : Nat} {rows : List (List Value)} (h : OwnL w base e sz (.slice (some ⟨g, 0, none⟩) n cap) rows) {j i : Nat} {r : List Value} {u : Value} (hj : rows[j]? = some r) (hi : r[i]? = some u) : w.cell? ⟨g, j * sz + i, none⟩ = some u := by
  have := h.2.cells (g := g) rfl (j * sz + i) u (flatten_at h.1 j i r u hj hi)
  rwa [add_plain, Nat.zero_add] at this
theorem OwnL.frozen {w : World} {base e sz g n cap : Nat} {rows : List (List Value)} (h : OwnL w base e sz (.slice (some ⟨g, 0, none⟩) n cap) rows) (j : Nat) : w.frozen? ⟨g, j, none⟩ = false := by
  rcases h.2.2 with ⟨h0, _⟩ | ⟨g', cap', cur, hv, _, hh, _⟩
  · cases h0
  · injection hv with hv _ _
    injection hv with hv
    injection hv with hv _ _
    subst hv
    exact Blk.frozen (t := e) (cs := cur) hh j
/-- The call's own slice, read as an argument. -/
theorem OwnL.listAt {w : World} {base e sz : Nat} {v : Value} {rows : List (List Value)} (h : OwnL w base e sz v rows) : ∃ A c, v = .slice A rows.length c ∧ rows.length ≤ c ∧ c ≤ 9223372036854775807 ∧ ListAt w w.heap.size sz A rows := by
  rcases h.form with ⟨rfl, rfl⟩ | ⟨g, cap, rfl, hb, hlt, h1, h2⟩
  · exact ⟨none, 0, rfl, by simp, by simp, fun h => absurd h (by simp)⟩
  · refine ⟨_, cap, rfl, h1, h2, fun _ => ⟨g, 0, rfl, hlt, fun j cs hj i u hi => ?_⟩⟩
    rw [Nat.zero_add]
    exact h.cell hj hi
theorem set_flatten {rows : List (List Value)} {sz : Nat} (h : ∀ r ∈ rows, r.length = sz) : ∀ (j i : Nat) (r : List Value) (u : Value), rows[j]? = some r → i < sz → rows.flatten.set (j * sz + i) u = (rows.set j (r.set i u)).flatten := by
  induction rows with
  | nil => intro j i r u hr; simp at hr
  | cons x rows ih =>
    intro j i r u hr hi
    have hx := h x (by simp)
    cases j with
    | zero =>
      simp at hr
      subst hr
      rw [Nat.zero_mul, Nat.zero_add, List.set_cons_zero, List.flatten_cons, List.flatten_cons, List.set_append_left _ _ (by omega)]
    | succ j =>
      simp at hr
      rw [List.set_cons_succ, List.flatten_cons, List.flatten_cons, List.set_append_right _ _ (by rw [hx, Nat.succ_mul]; omega), hx, show (j + 1) * sz + i - sz = j * sz + i from by rw [Nat.succ_mul]; omega]
      rw [ih (fun y hy => h y (List.mem_cons_of_mem _ hy)) j i r u hr hi]
theorem OwnL.set_ {w : World} {base e sz g n cap : Nat} {rows : List (List Value)} (h : OwnL w base e sz (.slice (some ⟨g, 0, none⟩) n cap) rows) {j i o : Nat} {r : List Value} (hj : rows[j]? = some r) (hi : i < sz) (ho : o = j * sz + i) (u : Value) :
    OwnL (w.setCell ⟨g, o, none⟩ u) base e sz (.slice (some ⟨g, 0, none⟩) n cap) (rows.set j (r.set i u)) := by
  subst ho
  refine ⟨fun x hx => ?_, ?_⟩
  · rcases List.mem_or_eq_of_mem_set hx with hx | rfl
    · exact h.1 x hx
    · rw [List.length_set]; exact h.1 r (List.mem_of_getElem? hj)
  · have hn : rows.length = n := by
      rcases h.2.2 with ⟨h0, _⟩ | ⟨g', cap', cur, hv, _⟩
      · cases h0
      · injection hv with _ hv _; exact hv.symm
    have h2 := h.2
    rw [hn] at h2
    have := h2.stored (j * sz + i) u
    rw [set_flatten h.1 j i r u hj hi] at this
    rw [List.length_set, hn]
    exact this.1
/-- What an append may have turned: the row itself, if it is the call's own. -/
theorem Grew.own {a w w' : World} {base : Nat} {row : Option Nat} (h : Grew a w) (hg : w.grownBy w' row) (hr : ∀ k, row = some k → base ≤ k) (hb : a.heap.size ≤ base) : Grew a w' :=
  h.trans' ⟨hg.os, hg.tape, hg.output, hg.size, fun k hk => hg.block k (Nat.lt_of_lt_of_le hk h.size) (fun e => by have := hr k e.symm; omega)⟩
theorem Blk.own {w w' : World} {g : Nat} {t : TypeId} {cs : Array Value} {row : Option Nat} (h : Blk w g t cs) (hg : w.grownBy w' row) (hne : row ≠ some g) : Blk w' g t cs := (hg.block g h.lt (fun e => hne e.symm)).trans h
section
variable {P : Program}
end
end Go.Proofs.Ytbddelefglhaaaa
namespace Go.Proofs.Ytbddelefglhaaaa
set_option linter.unusedVariables false
set_option linter.unusedSimpArgs false
set_option linter.unusedSectionVars false
open Go.RowKit
theorem flatten_take {rows : List (List Value)} {sz : Nat} (h : ∀ r ∈ rows, r.length = sz) : ∀ i, (rows.take i).flatten = rows.flatten.take (i * sz) := by
  induction rows with
  | nil => intro i; simp
  | cons x rows ih =>
    intro i
    have hx := h x (by simp)
    cases i with
    | zero => simp
    | succ i =>
      have hs : (i + 1) * sz = x.length + i * sz := by rw [hx, Nat.succ_mul]; omega
      rw [List.take_succ_cons, List.flatten_cons, List.flatten_cons, ih (fun y hy => h y (List.mem_cons_of_mem _ hy)), hs, List.take_append, List.take_of_length_le (l := x) (by omega), Nat.add_sub_cancel_left]
theorem OwnL.len {w : World} {base e sz g n cap : Nat} {rows : List (List Value)} (h : OwnL w base e sz (.slice (some ⟨g, 0, none⟩) n cap) rows) : rows.length = n ∧ n ≤ cap ∧ cap ≤ 9223372036854775807 := by
  rcases h.2.2 with ⟨h0, _⟩ | ⟨g', cap', cur, hv, _, _, hn, hm, _⟩
  · cases h0
  · injection hv with _ h1 h2
    unfold maxLen at hm
    exact ⟨h1.symm, by rw [h1, h2]; exact hn, by rw [h2]; simpa using hm⟩
theorem OwnL.block {w : World} {base e sz g n cap : Nat} {rows : List (List Value)} (h : OwnL w base e sz (.slice (some ⟨g, 0, none⟩) n cap) rows) :
    ∃ cur, base ≤ g ∧ w.heap[g]? = some (.cells cur e (0, 0)) ∧ cur.size = cap * sz ∧ cur.toList.take (n * sz) = rows.flatten := by
  have hlen := h.len.1
  rcases h.2.2 with ⟨h0, _⟩ | ⟨g', cap', cur, hv, hb, hh, hn, hm, hs, ht⟩
  · cases h0
  · injection hv with h0 h1 h2
    injection h0 with h0
    injection h0 with h0 _ _
    subst h0
    rw [hlen] at ht
    exact ⟨cur, hb, hh, by rw [hs, h2], ht⟩
theorem OwnL.shrink {w : World} {base e sz g n cap : Nat} {rows : List (List Value)} (h : OwnL w base e sz (.slice (some ⟨g, 0, none⟩) n cap) rows) {i : Nat} (hi : i ≤ n) :
    OwnL w base e sz (.slice (some ⟨g, 0, none⟩) i cap) (rows.take i) := by
  obtain ⟨hl, hc, hm⟩ := h.len
  obtain ⟨cur, hb, hh, hs, ht⟩ := h.block
  have hlt : (rows.take i).length = i := by rw [List.length_take]; omega
  have hsub : ∀ r ∈ rows.take i, r.length = sz := fun r hr => h.1 r (List.mem_of_mem_take hr)
  refine ⟨hsub, by rw [flatten_len hsub], .inr ⟨g, cap, cur, by rw [hlt], hb, hh, by omega, by unfold maxLen; omega, hs, ?_⟩⟩
  rw [hlt, flatten_take h.1, ← ht, List.take_take]
  congr 1
  exact (Nat.min_eq_left (Nat.mul_le_mul_right sz hi)).symm
theorem zeroCells_len (z : Array Value) (n : Nat) : (Builtin.zeroCells z n).toList.length = n * z.size := by simp [Builtin.zeroCells]
theorem zeroCells_one (z : Array Value) (n : Nat) (h1 : ∀ v ∈ z, v.oneCell' = true) (hz : 0 < z.size) : ∀ v ∈ (Builtin.zeroCells z n).toList, v.oneCell' = true := by
  intro v hv
  simp [Builtin.zeroCells] at hv
  obtain ⟨i, _, rfl⟩ := hv
  have hi : i % z.size < z.size := Nat.mod_lt _ hz
  rw [getElem!_pos z _ hi]
  exact h1 _ (Array.getElem_mem hi)
section
variable {P : Program}
theorem wpList_clear_own {W : World} {ops : Array Oper} {rest : List Oper} {o : Oper} {a : Act} {Q : Exit → Act → World → Prop} (hgd : o.guard = none) (x : Operand) (t : TypeId)
    (ho : o.op = .call { callee := .builtin .clear, args := #[x], argTypes := #[t] })
    (base e size : Nat) (z : Value) (ht : P.underlying t = some (.slice e)) (hz : ∀ w, (zeroValue e).run P w = .ok z w) (hzs : z.cells.size = size) (hz1 : ∀ v ∈ z.cells, v.oneCell' = true) (hsz : 0 < size)
    (g n cap i : Nat) (rows : List (List Value)) (hown : OwnL W base e size (.slice (some ⟨g, 0, none⟩) n cap) rows) (hi : i < n) (m c : Nat) (hm : m = n - i) (hx : a.eval x = .slice (some ⟨g, i * size, none⟩) m c)
    (h : ∀ w', OwnL w' base e size (.slice (some ⟨g, 0, none⟩) i cap) (rows.take i) → Turned (fun b => b = g) W w' → wpList P ops Q rest (a.put o.dst (.tuple #[])) w') :
    wpList P ops Q (o :: rest) a W := by
  subst hm
  obtain ⟨hl, hc, hmx⟩ := hown.len
  obtain ⟨cur, hb, hh, hs, htk⟩ := hown.block
  have hzl := zeroCells_len z.cells (n - i)
  rw [hzs] at hzl
  have hle : i * size + (n - i) * size = n * size := by rw [← Nat.add_mul]; congr 1; omega
  have hle2 : n * size ≤ cap * size := Nat.mul_le_mul_right _ hc
  have hst := run_storeCells_at (P := P) g (i * size) e (Builtin.zeroCells z.cells (n - i)).toList 0 cur W hh (by rw [hzl, hs]; omega) (zeroCells_one _ _ hz1 (by omega))
  simp only [Nat.add_zero] at hst
  have hrun : (Builtin.clear_ #[t] o.type #[.slice (some ⟨g, i * size, none⟩) (n - i) c]).run P W = .ok (.tuple #[]) (W.setRow g (cur.toList.take (i * size) ++ (Builtin.zeroCells z.cells (n - i)).toList ++ cur.toList.drop (i * size + (Builtin.zeroCells z.cells (n - i)).toList.length)).toArray) := by
    obtain ⟨k, hk⟩ : ∃ k, n - i = k + 1 := ⟨n - i - 1, by omega⟩
    rw [hk] at hst ⊢
    simp [Builtin.clear_, run_underlying ht, hz, hst]
  refine wpList_plain hgd fun K hK => ?_
  unfold Oper.wp execOp
  simp only [ho, resolve, invoke, builtin, Sem.run_bind, Sem.run_pure, Result.andThen_ok, List.map_toArray, List.map_cons, List.map_nil, hx, hrun]
  refine hK _ _ (h _ ?_ ((Turned.refl (fun b => b = g) W).setRow (fun _ => rfl) _))
  have hlt : (rows.take i).length = i := by rw [List.length_take]; omega
  have hsub : ∀ r ∈ rows.take i, r.length = size := fun r hr => hown.1 r (List.mem_of_mem_take hr)
  have hcl : cur.toList.length = cap * size := by rw [Array.length_toList, hs]
  refine ⟨hsub, by rw [flatten_len hsub], .inr ⟨g, cap, _, by rw [hlt], hb, setRow_heap W g cur _ e (0, 0) hh, by omega, by unfold maxLen; omega, ?_, ?_⟩⟩
  · simp only [List.size_toArray, List.length_append, List.length_take, List.length_drop, hzl, hcl]
    omega
  · rw [hlt, flatten_take hown.1, ← htk, List.take_take, Nat.min_eq_left (Nat.mul_le_mul_right size (Nat.le_of_lt hi)), List.append_assoc, List.take_append, List.take_of_length_le (by rw [List.length_take]; omega)]
    have : (cur.toList.take (i * size)).length = i * size := by rw [List.length_take, hcl]; omega
    rw [this, Nat.sub_self, List.take_zero, List.append_nil]
end
end Go.Proofs.Ytbddelefglhaaaa
namespace Go.Proofs.Ytbddelefglhaaaa
set_option linter.unusedVariables false
set_option linter.unusedSimpArgs false
set_option linter.unusedSectionVars false
open Go.RowKit
section
variable {P : Program}
theorem wp_push {o : Oper} {a : Act} {K : Act → World → Prop} {Q : Exit → Act → World → Prop} (s x : Operand) (t : TypeId)
    (ho : o.op = .call { callee := .builtin .append, args := #[s, x], argTypes := #[t, t] })
    (base e size bytes : Nat) (z : Value) (ht : P.underlying t = some (.slice e)) (hi : (P.info? e).map (fun i => (i.zero, i.size, i.bytes)) = some (some z, size, bytes)) (hzs : z.cells.size = size) (hsz : 0 < size)
    (W : World) (v : Value) (rows : List (List Value)) (row : List Value) (hrow : row.length = size) (hs : a.eval s = v) (hown : OwnL W base e size v rows) (gN : Nat) (hx : a.eval x = .slice (some ⟨gN, 0, none⟩) 1 1) (hb : Blk W gN e row.toArray) (h1 : row.all (·.oneCell') = true)
    (hlen : (rows.length + 1) * bytes ≤ 140737488355328) (h63 : rows.length + 1 ≤ 9223372036854775807) (hbase : base ≤ W.heap.size) (n : Nat) (hnl : rows.length = n)
    (h : ∀ g cap w', OwnL w' base e size (.slice (some ⟨g, 0, none⟩) (n + 1) cap) (rows ++ [row]) → W.grownBy w' v.ownBlock → (v.ownBlock = some g ∨ g = W.heap.size) → g < w'.heap.size → K (a.put o.dst (.slice (some ⟨g, 0, none⟩) (n + 1) cap)) w') :
    o.wp P a W K Q := by
  subst hnl
  obtain ⟨i, hi', hz0, hz1, hz2⟩ : ∃ i, P.info? e = some i ∧ i.zero = some z ∧ i.size = size ∧ i.bytes = bytes := by
    cases hq : P.info? e with
    | none => rw [hq] at hi; cases hi
    | some i => rw [hq] at hi; simp at hi; exact ⟨i, rfl, hi.1, hi.2.1, hi.2.2⟩
  refine wp_append_lies W s x t ho base e i z size bytes ht hi' hz0 hz1 hz2 hzs hsz v rows.length rows.flatten hs hown.2 ⟨gN, 0, none⟩ 1 1 row hx (by omega)
    (World.news_of_block (cs := row.toArray) hb) (fun u hu => List.all_eq_true.1 h1 u hu) (by omega) (by unfold maxLen; omega) hlen hbase _ rfl ?_
  intro g cap w' hown' hg hat hlt
  refine h g cap w' ⟨?_, ?_⟩ hg hat hlt
  · intro r hr'
    rcases List.mem_append.1 hr' with hr' | hr'
    · exact hown.1 r hr'
    · rw [List.mem_singleton.1 hr']; exact hrow
  · rw [List.flatten_append, List.length_append]
    simpa using hown'
theorem wpList_push2 {ops : Array Oper} {rest : List Oper} {o : Oper} {a : Act} {Q : Exit → Act → World → Prop} (hgd : o.guard = none) (s x : Operand) (t : TypeId)
    (ho : o.op = .call { callee := .builtin .append, args := #[s, x], argTypes := #[t, t] })
    (base e size bytes : Nat) (z : Value) (ht : P.underlying t = some (.slice e)) (hi : (P.info? e).map (fun i => (i.zero, i.size, i.bytes)) = some (some z, size, bytes)) (hzs : z.cells.size = size) (hsz : 0 < size)
    (W : World) (v : Value) (rows : List (List Value)) (row : List Value) (hrow : row.length = size) (hs : a.eval s = v) (hown : OwnL W base e size v rows) (gN : Nat) (hx : a.eval x = .slice (some ⟨gN, 0, none⟩) 1 1) (hb : Blk W gN e row.toArray) (h1 : row.all (·.oneCell') = true)
    (hlen : (rows.length + 1) * bytes ≤ 140737488355328) (h63 : rows.length + 1 ≤ 9223372036854775807) (hbase : base ≤ W.heap.size) (n : Nat) (hnl : rows.length = n)
    (h : ∀ g cap w', OwnL w' base e size (.slice (some ⟨g, 0, none⟩) (n + 1) cap) (rows ++ [row]) → W.grownBy w' v.ownBlock → (v.ownBlock = some g ∨ g = W.heap.size) → g < w'.heap.size → wpList P ops Q rest (a.put o.dst (.slice (some ⟨g, 0, none⟩) (n + 1) cap)) w') :
    wpList P ops Q (o :: rest) a W :=
  wpList_plain hgd fun _ hK => wp_push s x t ho base e size bytes z ht hi hzs hsz W v rows row hrow hs hown gN hx hb h1 hlen h63 hbase n hnl fun g cap w' h1 h2 h3 h4 => hK _ _ (h g cap w' h1 h2 h3 h4)
end
theorem OwnL.own {w w' : World} {base e sz : Nat} {v : Value} {rows : List (List Value)} {row : Option Nat} (h : OwnL w base e sz v rows) (hg : w.grownBy w' row) (hne : ∀ g, v.ownBlock = some g → row ≠ some g) : OwnL w' base e sz v rows := by
  refine ⟨h.1, h.2.1, ?_⟩
  rcases h.2.2 with h0 | ⟨g, cap, cur, hv, hb, hh, hr⟩
  · exact .inl h0
  · exact .inr ⟨g, cap, cur, hv, hb, Blk.own (t := e) (cs := cur) hh hg (hne g (by rw [hv]; rfl)), hr⟩
theorem OwnL.row_ge {w : World} {base e sz : Nat} {v : Value} {rows : List (List Value)} (h : OwnL w base e sz v rows) : ∀ k, v.ownBlock = some k → base ≤ k := fun _ hk => (h.own_ge hk).1
end Go.Proofs.Ytbddelefglhaaaa
namespace Go.Proofs.Ytbddelefglhaaaa
set_option linter.unusedVariables false
set_option linter.unusedSimpArgs false
set_option linter.unusedSectionVars false
open Go.RowKit
theorem flatten_row {rows : List (List Value)} {sz : Nat} (h : ∀ r ∈ rows, r.length = sz) : ∀ (q : Nat) (u : Value), rows.flatten[q]? = some u → ∃ j i r, rows[j]? = some r ∧ r[i]? = some u ∧ q = j * sz + i := by
  induction rows with
  | nil => intro q u hq; simp at hq
  | cons x rows ih =>
    intro q u hq
    have hx := h x (by simp)
    rw [List.flatten_cons] at hq
    rcases Nat.lt_or_ge q x.length with hlt | hge
    · rw [List.getElem?_append_left hlt] at hq
      exact ⟨0, q, x, rfl, hq, by omega⟩
    · rw [List.getElem?_append_right hge] at hq
      obtain ⟨j, i, r, h1, h2, h3⟩ := ih (fun y hy => h y (List.mem_cons_of_mem _ hy)) _ u hq
      exact ⟨j + 1, i, r, h1, h2, by rw [Nat.succ_mul]; omega⟩
section
variable {P : Program}
theorem run_append_empty {w : World} (base : Nat) (t ty e : TypeId) (i : TypeInfo) (size : Nat) (ht : P.underlying t = some (.slice e)) (hi : P.info? e = some i)
    (v : Value) (n : Nat) (xs : List Value) (hown : w.ownsRow base e size v n xs) (c : Nat) : (Builtin.append_ #[t, t] ty #[v, .slice none 0 c]).run P w = .ok v w := by
  rcases hown.2 with ⟨rfl, rfl⟩ | ⟨g, cap, cur, rfl, _, _, hnc, _⟩
  · simp [Builtin.append_, run_underlying ht, sizeOf, typeInfo, hi, Builtin.lenOf, Builtin.firstCells]
  · simp [Builtin.append_, run_underlying ht, sizeOf, typeInfo, hi, Builtin.lenOf, Builtin.firstCells, hnc, storeCells]
theorem wpList_pushAll {W : World} {ops : Array Oper} {rest : List Oper} {o : Oper} {a : Act} {Q : Exit → Act → World → Prop} (hwt : Region.wanted o (yielded ops a.tmps) = true) (s x : Operand) (t : TypeId)
    (ho : o.op = .call { callee := .builtin .append, args := #[s, x], argTypes := #[t, t] })
    (base e size bytes : Nat) (z : Value) (ht : P.underlying t = some (.slice e)) (hi : (P.info? e).map (fun i => (i.zero, i.size, i.bytes)) = some (some z, size, bytes)) (hzs : z.cells.size = size) (hsz : 0 < size)
    (v : Value) (rows rows' : List (List Value)) (hs : a.eval s = v) (hown : OwnL W base e size v rows) (A : Option Addr) (m c : Nat) (hx : a.eval x = .slice A m c) (hm : m = rows'.length) (hlen' : ∀ r ∈ rows', r.length = size) (hl : ListAt W W.heap.size size A rows') (h1 : ∀ r ∈ rows', r.all (·.oneCell') = true)
    (hlen : (rows.length + m) * bytes ≤ 140737488355328) (h63 : rows.length + m ≤ 9223372036854775807) (hbase : base ≤ W.heap.size)
    (h : ∀ v' w', OwnL w' base e size v' (rows ++ rows') → W.grownBy w' v.ownBlock → (v'.ownBlock = v.ownBlock ∨ v'.ownBlock = some W.heap.size) → wpList P ops Q rest (a.put o.dst v') w') :
    wpList P ops Q (o :: rest) a W := by
  subst hm
  obtain ⟨i, hi', hz0, hz1, hz2⟩ : ∃ i, P.info? e = some i ∧ i.zero = some z ∧ i.size = size ∧ i.bytes = bytes := by
    cases hq : P.info? e with
    | none => rw [hq] at hi; cases hi
    | some i => rw [hq] at hi; simp at hi; exact ⟨i, rfl, hi.1, hi.2.1, hi.2.2⟩
  have hflat := flatten_len hlen'
  obtain ⟨v', w', hrun, hown', hg, hat⟩ : ∃ v' w', (Builtin.append_ #[t, t] o.type #[v, .slice A rows'.length c]).run P W = .ok v' w' ∧ w'.ownsRow base e size v' (rows.length + rows'.length) (rows.flatten ++ rows'.flatten) ∧ W.grownBy w' v.ownBlock ∧
      (v'.ownBlock = v.ownBlock ∨ v'.ownBlock = some W.heap.size) := by
    cases A with
    | none =>
      have h0 : rows' = [] := by
        rcases Nat.eq_zero_or_pos rows'.length with h0 | h0
        · exact List.length_eq_zero_iff.1 h0
        · obtain ⟨b, off, e, _⟩ := hl h0
          cases e
      subst h0
      exact ⟨v, W, run_append_empty base t o.type e i size ht hi' v _ _ hown.2 c, by simpa using hown.2, World.grownBy.refl W _, .inl rfl⟩
    | some ad =>
      obtain ⟨v', w', hrun, h2, h3, _, h5⟩ := run_append_own_at (P := P) W base t o.type e i z size bytes ht hi' hz0 hz1 hz2 hzs hsz v rows.length rows.flatten hown.2 ad rows'.length c rows'.flatten hflat
        (fun q u hq => by
          obtain ⟨j, i, r, hj, hir, hqq⟩ := flatten_row hlen' q u hq
          obtain ⟨b, off, e, _, hc⟩ := hl (by have := (List.getElem?_eq_some_iff.1 hj).1; omega)
          injection e with e
          subst e
          rw [add_plain, hqq, ← Nat.add_assoc]
          exact hc j r hj i u hir)
        (fun u hu => by
          obtain ⟨r, hr, hur⟩ := List.mem_flatten.1 hu
          exact List.all_eq_true.1 (h1 r hr) u hur) (by unfold maxLen; omega) hlen hbase
      exact ⟨v', w', hrun, h2, h3, h5⟩
  have hK : ∀ K : Act → World → Prop, K (a.put o.dst v') w' → o.wp P a W K Q := by
    intro K hk
    unfold Oper.wp execOp
    simp only [ho, resolve, invoke, builtin, Sem.run_bind, Sem.run_pure, Result.andThen_ok, List.map_toArray, List.map_cons, List.map_nil, hs, hx, hrun]
    exact hk
  have hend := h v' w' ⟨fun r hr => (List.mem_append.1 hr).elim (hown.1 r) (hlen' r), by rw [List.flatten_append, List.length_append]; exact hown'⟩ hg hat
  exact wpList_step fun K hk => by rw [if_pos hwt]; exact hK K (hk _ _ hend)
end
end Go.Proofs.Ytbddelefglhaaaa
namespace Go.Proofs.Ytbddelefglhaaaa
set_option linter.unusedVariables false
set_option linter.unusedSimpArgs false
set_option linter.unusedSectionVars false
open Go.RowKit
section
variable {P : Program} {ops : Array Oper} {Q : Exit → Act → World → Prop} {md : Region.Mode} {A : Nat → Bool} {S : World → Prop}
/-- What is listed has come up behind all that it waits for. -/
def Down (md : Region.Mode) (ops : Array Oper) (listed : Array Bool) : Prop :=
  ∀ j oj, ops[j]? = some oj → listed.getD j true = true → ∀ e ∈ oj.after, Region.binds md e = true → listed.getD e.on false = true
theorem Down.step {listed : Array Bool} (h : Down md ops listed) {j : Nat} (hj : j ∈ Region.ready md ops listed) : Down md ops (listed.setIfInBounds j true) := by
  intro k ok hk hl e he hb
  by_cases hjk : j = k
  · subst hjk
    obtain ⟨_, oj, hoj, hall⟩ := mem_ready.1 hj
    rw [hoj] at hk
    injection hk with hk
    subst hk
    exact getD_set_true (hall e he hb)
  · rw [getD_set_ne true hjk] at hl
    exact getD_set_true (h k ok hk hl e he hb)
/-- 'late' names operations that wait for i, at once or through one another. -/
def Late (md : Region.Mode) (ops : Array Oper) (i : Nat) (late : Nat → Bool) : Prop :=
  ∀ j oj, ops[j]? = some oj → late j = true → ∃ e ∈ oj.after, Region.binds md e = true ∧ (e.on = i ∨ (late e.on = true ∧ e.on < j ∧ e.on < ops.size))
theorem Late.unlisted {i : Nat} {late : Nat → Bool} (h : Late md ops i late) {listed : Array Bool} (hd : Down md ops listed) (hi : listed.getD i false = false) : ∀ j, j < ops.size → late j = true → listed.getD j true = false := by
  intro j
  induction j using Nat.strongRecOn with
  | ind j ih =>
    intro hj hl
    obtain ⟨e, he, hb, hor⟩ := h j ops[j] (Array.getElem?_eq_getElem hj) hl
    cases hlj : listed.getD j true with
    | false => rfl
    | true =>
      have h1 := hd j ops[j] (Array.getElem?_eq_getElem hj) hlj e he hb
      rcases hor with h2 | ⟨h2, h3, h4⟩
      · rw [h2, hi] at h1; cases h1
      · have h5 := ih e.on h3 h4 h2
        rcases Nat.lt_or_ge e.on listed.size with h6 | h6
        · simp [h6] at h1 h5; rw [h1] at h5; cases h5
        · simp [Array.getElem?_eq_none h6] at h1
/-- The side conditions, to be reckoned. -/
def downB (md : Region.Mode) (ops : Array Oper) (listed : Array Bool) : Bool :=
  (List.range ops.size).all fun j => !listed.getD j true || (match ops[j]? with | some o => o.after.all (fun e => !Region.binds md e || listed.getD e.on false) | none => true)
theorem downB_spec {listed : Array Bool} (h : downB md ops listed = true) : Down md ops listed := by
  intro j oj hj hl e he hb
  have hlt := (Array.getElem?_eq_some_iff.1 hj).1
  have h1 := List.all_eq_true.1 h j (List.mem_range.2 hlt)
  simp only [hl, hj, Bool.not_true, Bool.false_or] at h1
  have h2 := (Array.all_eq_true_iff_forall_mem.1 h1) e he
  simpa [hb] using h2
def lateB (md : Region.Mode) (ops : Array Oper) (i : Nat) (late : Nat → Bool) : Bool :=
  (List.range ops.size).all fun j => !late j || (match ops[j]? with | some o => o.after.any (fun e => Region.binds md e && (e.on == i || (late e.on && decide (e.on < j) && decide (e.on < ops.size)))) | none => true)
theorem lateB_spec {i : Nat} {late : Nat → Bool} (h : lateB md ops i late = true) : Late md ops i late := by
  intro j oj hj hl
  have hlt := (Array.getElem?_eq_some_iff.1 hj).1
  have h1 := List.all_eq_true.1 h j (List.mem_range.2 hlt)
  simp only [hl, hj, Bool.not_true, Bool.false_or] at h1
  obtain ⟨e, he, h2⟩ := Array.any_eq_true'.1 h1
  simp only [Bool.and_eq_true, Bool.or_eq_true, beq_iff_eq, decide_eq_true_eq] at h2
  exact ⟨e, he, h2.1, h2.2.imp id (fun h => ⟨h.1.1, h.1.2, h.2⟩)⟩
end
end Go.Proofs.Ytbddelefglhaaaa
namespace Go.Proofs.Ytbddelefglhaaaa
set_option linter.unusedVariables false
set_option linter.unusedSimpArgs false
set_option linter.unusedSectionVars false
open Go.RowKit
section
variable {P : Program}
theorem wp_pushAll {W : World} {o : Oper} {a : Act} {K : Act → World → Prop} {Q : Exit → Act → World → Prop} (s x : Operand) (t : TypeId)
    (ho : o.op = .call { callee := .builtin .append, args := #[s, x], argTypes := #[t, t] })
    (base e size bytes : Nat) (z : Value) (ht : P.underlying t = some (.slice e)) (hi : (P.info? e).map (fun i => (i.zero, i.size, i.bytes)) = some (some z, size, bytes)) (hzs : z.cells.size = size) (hsz : 0 < size)
    (v : Value) (rows rows' : List (List Value)) (hs : a.eval s = v) (hown : OwnL W base e size v rows) (A : Option Addr) (m c : Nat) (hx : a.eval x = .slice A m c) (hm : m = rows'.length) (hlen' : ∀ r ∈ rows', r.length = size) (hl : ListAt W W.heap.size size A rows') (h1 : ∀ r ∈ rows', r.all (·.oneCell') = true)
    (hlen : (rows.length + m) * bytes ≤ 140737488355328) (h63 : rows.length + m ≤ 9223372036854775807) (hbase : base ≤ W.heap.size)
    (h : ∀ v' w', OwnL w' base e size v' (rows ++ rows') → W.grownBy w' v.ownBlock → (v'.ownBlock = v.ownBlock ∨ v'.ownBlock = some W.heap.size) → K (a.put o.dst v') w') :
    o.wp P a W K Q := by
  subst hm
  obtain ⟨i, hi', hz0, hz1, hz2⟩ : ∃ i, P.info? e = some i ∧ i.zero = some z ∧ i.size = size ∧ i.bytes = bytes := by
    cases hq : P.info? e with
    | none => rw [hq] at hi; cases hi
    | some i => rw [hq] at hi; simp at hi; exact ⟨i, rfl, hi.1, hi.2.1, hi.2.2⟩
  have hflat := flatten_len hlen'
  obtain ⟨v', w', hrun, hown', hg, hat⟩ : ∃ v' w', (Builtin.append_ #[t, t] o.type #[v, .slice A rows'.length c]).run P W = .ok v' w' ∧ w'.ownsRow base e size v' (rows.length + rows'.length) (rows.flatten ++ rows'.flatten) ∧ W.grownBy w' v.ownBlock ∧
      (v'.ownBlock = v.ownBlock ∨ v'.ownBlock = some W.heap.size) := by
    cases A with
    | none =>
      have h0 : rows' = [] := by
        rcases Nat.eq_zero_or_pos rows'.length with h0 | h0
        · exact List.length_eq_zero_iff.1 h0
        · obtain ⟨b, off, e, _⟩ := hl h0
          cases e
      subst h0
      exact ⟨v, W, run_append_empty base t o.type e i size ht hi' v _ _ hown.2 c, by simpa using hown.2, World.grownBy.refl W _, .inl rfl⟩
    | some ad =>
      obtain ⟨v', w', hrun, h2, h3, _, h5⟩ := run_append_own_at (P := P) W base t o.type e i z size bytes ht hi' hz0 hz1 hz2 hzs hsz v rows.length rows.flatten hown.2 ad rows'.length c rows'.flatten hflat
        (fun q u hq => by
          obtain ⟨j, i, r, hj, hir, hqq⟩ := flatten_row hlen' q u hq
          obtain ⟨b, off, e, _, hc⟩ := hl (by have := (List.getElem?_eq_some_iff.1 hj).1; omega)
          injection e with e
          subst e
          rw [add_plain, hqq, ← Nat.add_assoc]
          exact hc j r hj i u hir)
        (fun u hu => by
          obtain ⟨r, hr, hur⟩ := List.mem_flatten.1 hu
          exact List.all_eq_true.1 (h1 r hr) u hur) (by unfold maxLen; omega) hlen hbase
      exact ⟨v', w', hrun, h2, h3, h5⟩
  have hend := h v' w' ⟨fun r hr => (List.mem_append.1 hr).elim (hown.1 r) (hlen' r), by rw [List.flatten_append, List.length_append]; exact hown'⟩ hg hat
  unfold Oper.wp execOp
  simp only [ho, resolve, invoke, builtin, Sem.run_bind, Sem.run_pure, Result.andThen_ok, List.map_toArray, List.map_cons, List.map_nil, hs, hx, hrun]
  exact hend
end
theorem ListAt.take {w : World} {B sz : Nat} {A : Option Addr} {rows : List (List Value)} (h : ListAt w B sz A rows) (n : Nat) : ListAt w B sz A (rows.take n) := fun hl => by
  obtain ⟨b, off, e, hb, hc⟩ := h (by rw [List.length_take] at hl; omega)
  refine ⟨b, off, e, hb, fun j cs hj i v hi => hc j cs ?_ i v hi⟩
  rw [List.getElem?_take] at hj
  split at hj
  · exact hj
  · cases hj
theorem ListAt.drop {w : World} {B sz b off off' : Nat} {rows : List (List Value)} (h : ListAt w B sz (some ⟨b, off, none⟩) rows) (n : Nat) (ho : off' = off + n * sz) : ListAt w B sz (some ⟨b, off', none⟩) (rows.drop n) := fun hl => by
  obtain ⟨b', off2, e, hb, hc⟩ := h (by rw [List.length_drop] at hl; omega)
  injection e with e
  injection e with e1 e2 _
  subst e1; subst e2
  refine ⟨b, off', rfl, hb, fun j cs hj i v hi => ?_⟩
  rw [List.getElem?_drop] at hj
  have := hc (n + j) cs hj i v hi
  rw [ho]
  rw [show off + n * sz + j * sz + i = off + (n + j) * sz + i by rw [Nat.add_mul]; omega]
  exact this
theorem ListAt.none {w : World} {B sz : Nat} (A : Option Addr) : ListAt w B sz A [] := fun h => absurd h (by simp)
theorem OwnL.listA {w : World} {base e sz n c : Nat} {A : Option Addr} {rows : List (List Value)} (h : OwnL w base e sz (.slice A n c) rows) : ListAt w w.heap.size sz A rows := by
  obtain ⟨A', c', hv, _, _, hl⟩ := h.listAt
  injection hv with h1 _ _
  rw [h1]
  exact hl
end Go.Proofs.Ytbddelefglhaaaa
namespace Go.Proofs.Ytbddelefglhaaaa
set_option linter.unusedVariables false
set_option linter.unusedSimpArgs false
set_option linter.unusedSectionVars false
open Go.RowKit
section
variable {P : Program} {ops : Array Oper} {Q : Exit → Act → World → Prop} {md : Region.Mode} {A : Nat → Bool} {S : World → Prop}
def wpAnyR (P : Program) (md : Region.Mode) (ops : Array Oper) (Q : Exit → Act → World → Prop) (A : Nat → Bool) (S : World → Prop) : Nat → Array Bool → Act → World → Prop
  | 0, listed, a, w => Region.ready md ops listed = [] ∧ Q .normal a w
  | fuel + 1, listed, a, w =>
    (Region.ready md ops listed = [] → Q .normal a w) ∧
    ∀ i ∈ Region.ready md ops listed, wpOp P ops Q i (fun a' w' => (A i = true ∨ (S w → S w')) ∧ wpAnyR P md ops Q A S fuel (listed.setIfInBounds i true) a' w') a w
theorem wpAny_of_R : ∀ (fuel : Nat) (listed : Array Bool) (a : Act) (w : World), wpAnyR P md ops Q A S fuel listed a w → wpAny P md ops Q fuel listed a w
  | 0, _, _, _, h => h
  | fuel + 1, _, _, _, h => ⟨h.1, fun i hi => wpOp_mono (fun a' w' h' => wpAny_of_R fuel _ a' w' h'.2) (h.2 i hi)⟩
theorem wpAnyR_first {i : Nat} {oi : Oper} {v : Value} {late : Nat → Bool} (hi : ops[i]? = some oi) (hsel : ∀ (j : Nat) (o : Oper) cs b, ops[j]? = some o → o.op ≠ .select cs b)
    (hlate : Late md ops i late) (hA : ∀ j, A j = true → late j = true) (hAi : A i = false)
    (hQ : ∀ c a w, Q (.panic c) (a.put oi.dst v) w → Q (.panic c) a w) :
    ∀ (fuel : Nat) (listed : Array Bool) (a : Act) (w : World), Down md ops listed →
      (∀ j oj, ops[j]? = some oj → j ≠ i → listed.getD j true = false → (∀ e ∈ oj.after, Region.binds md e = true → e.on ≠ i) → oi.apart ops oj = true) →
      i ∈ Region.ready md ops listed → YieldsIf P ops S oi v a → S w →
      wpAnyR P md ops Q A S fuel (listed.setIfInBounds i true) (a.put oi.dst v) w → wpAnyR P md ops Q A S (fuel + 1) listed a w := by
  intro fuel
  have hii : i < ops.size := (Array.getElem?_eq_some_iff.1 hi).1
  have key : ∀ (listed : Array Bool), Down md ops listed → i ∈ Region.ready md ops listed → ∀ j, j ∈ Region.ready md ops listed → j ≠ i → A j = false := by
    intro listed hd hr j hj hji
    cases hAj : A j with
    | false => rfl
    | true =>
      exfalso
      have hl := hA j hAj
      obtain ⟨hjun, oj, hoj, hall⟩ := mem_ready.1 hj
      obtain ⟨e, he, hb, hor⟩ := hlate j oj hoj hl
      have h1 := hall e he hb
      have h0 := (mem_ready.1 hr).1
      have hi0 : listed.getD i false = false := by
        rcases Nat.lt_or_ge i listed.size with h' | h'
        · simp [h'] at h0 ⊢; exact h0
        · simp [Array.getElem?_eq_none h']
      rcases hor with h2 | ⟨h2, h3, h4⟩
      · rw [h2, hi0] at h1; cases h1
      · have h5 := hlate.unlisted hd hi0 e.on h4 h2
        rcases Nat.lt_or_ge e.on listed.size with h6 | h6
        · simp [h6] at h1 h5; rw [h1] at h5; cases h5
        · simp [Array.getElem?_eq_none h6] at h1
  induction fuel with
  | zero =>
    intro listed a w hd _ hr hy hS H
    refine ⟨fun h => (by rw [h] at hr; cases hr), fun j hj => ?_⟩
    by_cases hji : j = i
    · subst hji; exact hy.wpOp hi hS ⟨.inr (fun h => h), H⟩
    · have := ready_mono hj hji
      rw [H.1] at this
      cases this
  | succ fuel ih =>
    intro listed a w hd hfree hr hy hS H
    refine ⟨fun h => (by rw [h] at hr; cases hr), fun j hj => ?_⟩
    by_cases hji : j = i
    · subst hji; exact hy.wpOp hi hS ⟨.inr (fun h => h), H⟩
    · have h1 := H.2 j (ready_mono hj hji)
      have hAj := key listed hd hr j hj hji
      obtain ⟨hjun, oj, hoj, hall⟩ := mem_ready.1 hj
      have hnot : ∀ e ∈ oj.after, Region.binds md e = true → e.on ≠ i := fun e he hb heq => by
        have h1 := hall e he hb
        have h0 := (mem_ready.1 hr).1
        rw [heq] at h1
        rcases Nat.lt_or_ge i listed.size with h' | h'
        · simp [h'] at h0 h1; rw [h0] at h1; cases h1
        · simp [Array.getElem?_eq_none h'] at h1
      have h2 := wpOp_putIf hoj (hfree j oj hoj hji hjun hnot) (fun cs b => hsel i oi cs b hi) (fun cs b => hsel j oj cs b hoj) hQ hy h1
      have hfree' : ∀ k ok, ops[k]? = some ok → k ≠ i → (listed.setIfInBounds j true).getD k true = false →
          (∀ e ∈ ok.after, Region.binds md e = true → e.on ≠ i) → oi.apart ops ok = true := fun k ok hk hki hun hno => by
        refine hfree k ok hk hki ?_ hno
        by_cases hjk : j = k
        · subst hjk; exact hjun
        · rw [getD_set_ne true hjk] at hun; exact hun
      refine wpOp_mono (fun a' w' h3 => ?_) h2
      have hS' : S w' := h3.2.1.resolve_left (by rw [hAj]; simp) hS
      refine ⟨h3.2.1, ih (listed.setIfInBounds j true) a' w' (hd.step hj) hfree' (ready_mono hr (Ne.symm hji)) h3.1 hS' ?_⟩
      rw [Array.setIfInBounds_comm _ _ hji]
      exact h3.2.2
theorem wpAnyR_firstQ {i : Nat} {oi : Oper} {v : Value} (hi : ops[i]? = some oi) (hsel : ∀ (j : Nat) (o : Oper) cs b, ops[j]? = some o → o.op ≠ .select cs b)
    (hQ : ∀ c a w, Q (.panic c) (a.put oi.dst v) w → Q (.panic c) a w) :
    ∀ (fuel : Nat) (listed : Array Bool) (a : Act) (w : World), Down md ops listed →
      (∀ j oj, ops[j]? = some oj → j ≠ i → listed.getD j true = false → (∀ e ∈ oj.after, Region.binds md e = true → e.on ≠ i) → oi.apart ops oj = true) →
      i ∈ Region.ready md ops listed → YieldsIf P ops (fun _ => True) oi v a →
      wpAnyR P md ops Q A S fuel (listed.setIfInBounds i true) (a.put oi.dst v) w → wpAnyR P md ops Q A S (fuel + 1) listed a w := by
  intro fuel
  induction fuel with
  | zero =>
    intro listed a w hd _ hr hy H
    refine ⟨fun h => (by rw [h] at hr; cases hr), fun j hj => ?_⟩
    by_cases hji : j = i
    · subst hji; exact hy.wpOp hi trivial ⟨.inr (fun h => h), H⟩
    · have := ready_mono hj hji
      rw [H.1] at this
      cases this
  | succ fuel ih =>
    intro listed a w hd hfree hr hy H
    refine ⟨fun h => (by rw [h] at hr; cases hr), fun j hj => ?_⟩
    by_cases hji : j = i
    · subst hji; exact hy.wpOp hi trivial ⟨.inr (fun h => h), H⟩
    · have h1 := H.2 j (ready_mono hj hji)
      obtain ⟨hjun, oj, hoj, hall⟩ := mem_ready.1 hj
      have hnot : ∀ e ∈ oj.after, Region.binds md e = true → e.on ≠ i := fun e he hb heq => by
        have h1 := hall e he hb
        have h0 := (mem_ready.1 hr).1
        rw [heq] at h1
        rcases Nat.lt_or_ge i listed.size with h' | h'
        · simp [h'] at h0 h1; rw [h0] at h1; cases h1
        · simp [Array.getElem?_eq_none h'] at h1
      have h2 := wpOp_putIf hoj (hfree j oj hoj hji hjun hnot) (fun cs b => hsel i oi cs b hi) (fun cs b => hsel j oj cs b hoj) hQ hy h1
      have hfree' : ∀ k ok, ops[k]? = some ok → k ≠ i → (listed.setIfInBounds j true).getD k true = false →
          (∀ e ∈ ok.after, Region.binds md e = true → e.on ≠ i) → oi.apart ops ok = true := fun k ok hk hki hun hno => by
        refine hfree k ok hk hki ?_ hno
        by_cases hjk : j = k
        · subst hjk; exact hjun
        · rw [getD_set_ne true hjk] at hun; exact hun
      refine wpOp_mono (fun a' w' h3 => ?_) h2
      refine ⟨h3.2.1, ih (listed.setIfInBounds j true) a' w' (hd.step hj) hfree' (ready_mono hr (Ne.symm hji)) h3.1 ?_⟩
      rw [Array.setIfInBounds_comm _ _ hji]
      exact h3.2.2
theorem wpAnyR_take {i : Nat} {oi : Oper} {v : Value} {fuel : Nat} {listed : Array Bool} {a : Act} {w : World} {al : List Nat} (late : List Nat) (d : Option Tmp) (hi : ops[i]? = some oi) (hdst : oi.dst = d)
    (hs : Region.noSelect ops = true) (hd : downB md ops listed = true) (hl : lateB md ops i late.contains = true) (hA : al.all late.contains = true) (hAi : al.contains i = false)
    (hf : Region.free md ops listed i = true) (hr : (Region.ready md ops listed).contains i = true)
    (hQ : ∀ c a w, Q (.panic c) (a.put oi.dst v) w → Q (.panic c) a w) (hy : YieldsIf P ops S oi v a) (hS : S w)
    (h : wpAnyR P md ops Q al.contains S fuel (listed.setIfInBounds i true) (a.put d v) w) : wpAnyR P md ops Q al.contains S (fuel + 1) listed a w := by
  subst hdst
  exact wpAnyR_first hi (Region.noSelect_spec hs) (lateB_spec hl) (fun j hj => List.all_eq_true.1 hA j (by simpa using hj)) hAi hQ fuel listed a w (downB_spec hd) (Region.free_spec hi hf) (by simpa using hr) hy hS h
theorem wpAnyR_takeQ {i : Nat} {oi : Oper} {v : Value} {fuel : Nat} {listed : Array Bool} {a : Act} {w : World} {al : List Nat} (d : Option Tmp) (hi : ops[i]? = some oi) (hdst : oi.dst = d)
    (hs : Region.noSelect ops = true) (hd : downB md ops listed = true)
    (hf : Region.free md ops listed i = true) (hr : (Region.ready md ops listed).contains i = true)
    (hQ : ∀ c a w, Q (.panic c) (a.put oi.dst v) w → Q (.panic c) a w) (hy : YieldsIf P ops (fun _ => True) oi v a)
    (h : wpAnyR P md ops Q al.contains S fuel (listed.setIfInBounds i true) (a.put d v) w) : wpAnyR P md ops Q al.contains S (fuel + 1) listed a w := by
  subst hdst
  exact wpAnyR_firstQ hi (Region.noSelect_spec hs) hQ fuel listed a w (downB_spec hd) (Region.free_spec hi hf) (by simpa using hr) hy h
theorem wpAnyR_n1 {i : Nat} {oi : Oper} {fuel : Nat} {listed : Array Bool} {a : Act} {w : World} {al : List Nat} (hoi : ops[i]? = some oi) (hr : Region.ready md ops listed = [i])
    (gi : (∀ K' : Act → World → Prop, Shut (∀ a' w', (al.contains i = true ∨ (S w → S w')) → wpAnyR P md ops Q al.contains S fuel (listed.setIfInBounds i true) a' w' → K' a' w') → if Region.wanted oi (yielded ops a.tmps) = true then Oper.wp P oi a w K' Q else K' (a.put oi.dst undef) w))
    : wpAnyR P md ops Q al.contains S (fuel + 1) listed a w :=
  ⟨fun h0 => absurd (hr ▸ h0) (by simp), fun x hx => (by
    rw [hr] at hx
    rw [List.mem_singleton.1 hx]
    exact wpOp_step hoi (fun K' hK => gi K' (fun a' w' hS hW => hK a' w' ⟨hS, hW⟩)))⟩
theorem wpAnyR_n2 {i j : Nat} {oi oj : Oper} {fuel : Nat} {listed : Array Bool} {a : Act} {w : World} {al : List Nat} (hoi : ops[i]? = some oi) (hoj : ops[j]? = some oj) (hr : Region.ready md ops listed = [i, j])
    (gi : (∀ K' : Act → World → Prop, Shut (∀ a' w', (al.contains i = true ∨ (S w → S w')) → wpAnyR P md ops Q al.contains S fuel (listed.setIfInBounds i true) a' w' → K' a' w') → if Region.wanted oi (yielded ops a.tmps) = true then Oper.wp P oi a w K' Q else K' (a.put oi.dst undef) w))
    (gj : (∀ K' : Act → World → Prop, Shut (∀ a' w', (al.contains j = true ∨ (S w → S w')) → wpAnyR P md ops Q al.contains S fuel (listed.setIfInBounds j true) a' w' → K' a' w') → if Region.wanted oj (yielded ops a.tmps) = true then Oper.wp P oj a w K' Q else K' (a.put oj.dst undef) w))
    : wpAnyR P md ops Q al.contains S (fuel + 1) listed a w :=
  ⟨fun h0 => absurd (hr ▸ h0) (by simp), fun x hx => (by
    rw [hr] at hx
    rcases List.mem_cons.1 hx with rfl | hx
    · exact wpOp_step hoi (fun K' hK => gi K' (fun a' w' hS hW => hK a' w' ⟨hS, hW⟩))
    rw [List.mem_singleton.1 hx]
    exact wpOp_step hoj (fun K' hK => gj K' (fun a' w' hS hW => hK a' w' ⟨hS, hW⟩)))⟩
theorem wpAnyR_done {listed : Array Bool} {a : Act} {w : World} {al : List Nat} (hr : Region.ready md ops listed = []) (h : Q .normal a w) : ∀ fuel, wpAnyR P md ops Q al.contains S fuel listed a w
  | 0 => ⟨hr, h⟩
  | _ + 1 => ⟨fun _ => h, by rw [hr]; simp⟩
theorem wp_region_R {id : Nat} {a : Act} {w : World} (al : List Nat) (S : World → Prop) (hm : P.follows .mixedOrders = true)
    (h : wpAnyR P .any ops Q al.contains S ops.size (Array.replicate ops.size false) a w.drew) : (Code.region id ops true).wp P Q a w :=
  wp_region_any hm (wpAny_of_R _ _ _ _ h)
end
end Go.Proofs.Ytbddelefglhaaaa
namespace Go.Proofs.Ytbddelefglhaaaa
set_option linter.unusedVariables false
set_option linter.unusedSimpArgs false
set_option linter.unusedSectionVars false
open Go.RowKit
theorem wpList_load_blk {P : Program} {ops : Array Oper} {rest : List Oper} {op : Oper} {a : Act} {w : World} {Q : Exit → Act → World → Prop} (hgd : op.guard = none) (ty : TypeId) (x : Operand) (ho : op.op = .load ty x)
    (g : Nat) (hx : a.eval x = .pointer (some ⟨g, 0, none⟩)) (t : TypeId) (cs : Array Value) (d : TypeDesc) (hb : Blk w g t cs)
    (hu : P.underlying ty = some d) (hd : (match d with | .struct _ | .array _ _ => true | _ => false) = true) (hi : (P.info? ty).map (·.size) = some cs.size)
    (h : wpList P ops Q rest (a.put op.dst (.agg cs)) w) : wpList P ops Q (op :: rest) a w :=
  wpList_load_row hgd ty x ho g hx t cs (0, 0) d hb hu hd hi h
theorem wpList_store_blk {P : Program} {ops : Array Oper} {rest : List Oper} {op : Oper} {a : Act} {w : World} {Q : Exit → Act → World → Prop} (hgd : op.guard = none) (ty : TypeId) (x y : Operand) (ho : op.op = .store ty x y)
    (g : Nat) (cells : Array Value) (hx : a.eval x = .pointer (some ⟨g, 0, none⟩)) (hy : a.eval y = .agg cells) (t : TypeId) (old : Array Value) (hb : Blk w g t old) (hs : old.size = cells.size)
    (hi : (P.info? ty).map (·.size) = some cells.size) (h1 : cells.all (·.oneCell') = true)
    (h : wpList P ops Q rest (a.put op.dst undef) (w.setRow g cells)) : wpList P ops Q (op :: rest) a w :=
  wpList_plain hgd fun _ hK => by
    unfold Oper.wp execOp
    simp only [ho, hx, hy, Instr.storeAt, Instr.sureAddr, Sem.run_bind, Sem.run_pure, Result.andThen_ok, run_storeVar_row w g t ty old cells hb hi hs h1]
    exact hK _ _ h
/-- A run as two cells. -/
def runC (r : Int × Int) : List Value := [.int .i64 r.1, .int .i64 r.2]
def okRun (r : Int × Int) : Prop := -9223372036854775808 ≤ r.1 ∧ r.1 ≤ 9223372036854775807 ∧ -9223372036854775808 ≤ r.2 ∧ r.2 ≤ 9223372036854775807
/-- A list of runs in memory. -/
def RunsAt (w : World) (B : Nat) (A : Option Addr) (l : List (Int × Int)) : Prop := (∀ r ∈ l, okRun r) ∧ ListAt w B 2 A (l.map runC)
theorem RunsAt.keep {w w' : World} {B : Nat} {A : Option Addr} {l : List (Int × Int)} (h : RunsAt w B A l) (hB : B ≤ w.heap.size) (hk : Grew w w') : RunsAt w' B A l := ⟨h.1, h.2.keep hB hk⟩
theorem RunsAt.at_ {w : World} {B : Nat} {A : Option Addr} {l : List (Int × Int)} (h : RunsAt w B A l) {k : Nat} (hk : k < l.length) :
    ∃ b off f c, A = some ⟨b, off, none⟩ ∧ b < B ∧ l[k] = (f, c) ∧ okRun (f, c) ∧ w.cell? ⟨b, off + k * 2, none⟩ = some (.int .i64 f) ∧ w.cell? ⟨b, off + k * 2 + 1, none⟩ = some (.int .i64 c) := by
  obtain ⟨b, off, e, hb, hc⟩ := h.2 (by simp; omega)
  have hl : (l.map runC)[k]? = some (runC l[k]) := by rw [List.getElem?_map, List.getElem?_eq_getElem hk]; rfl
  have hcc := hc k _ hl
  have hok := h.1 l[k] (List.getElem_mem hk)
  rcases hv : l[k] with ⟨f, c⟩
  rw [hv] at hcc hok
  exact ⟨b, off, f, c, e, hb, rfl, hok, hcc 0 _ rfl, hcc 1 _ rfl⟩
end Go.Proofs.Ytbddelefglhaaaa
namespace Go.Proofs.Ytbddelefglhaaaa
set_option linter.unusedVariables false
set_option linter.unusedSimpArgs false
set_option linter.unusedSectionVars false
open Go.RowKit
open Go.Maps (Keyed)
theorem ret_bool {a b : Bool} (h : a = b) : Ending.returned (.bool a) = .returned (.bool b) := by rw [h]
theorem ret_int {k : IntKind} {a b : Int} (h : a = b) : Ending.returned (.int k a) = .returned (.int k b) := by rw [h]
theorem ret_si {a b : ByteArray} {c d : Int} (h : a = b) (h' : c = d) : Ending.returned (.tuple #[.string a, .int .i64 c]) = .returned (.tuple #[.string b, .int .i64 d]) := by rw [h, h']
def strC (s : ByteArray) : List Value := [.string s]
def intC (n : Int) : List Value := [.int .i64 n]
def wrC (r : Wr) : List Value := [.int .i64 r.sys, .int .i64 (r.sec : Int), .string r.data]
abbrev intV (n : Int) : Value := .int .i64 n
abbrev MapI (w : World) (m : Nat) (F : Int → Option Value) : Prop := MapIs Try.prog 3 intV w m F
theorem intV_inj (a b : Int) (h : intV a = intV b) : a = b := by injection h
theorem int_keyedI : Keyed Try.prog 3 := Go.Maps.int_keyed Try.underlying3
theorem int_key (n : Int) (h : okI n) : ∃ x, keyOf Try.prog 3 (intV n) = some x := ⟨_, Go.Maps.keyOf_int_mk Try.underlying3 (WalkArith.wf_i64 h)⟩
/-- What the map holds of a system's fence. -/
def FenR (v : Option Value) (f : Int) : Prop := (v = none ∧ f = 0) ∨ ∃ e, okI e ∧ v = some (.int .i64 e) ∧ f = clipE e
structure DevP where
  x : Nat
  m : Nat
  vs : Value
  vo : Value
  vp : Value
  vsv : Value
  os : List Value
  set : Bool
  left : Int
  svl : List Int
  E : Int → Option Value
/-- A device in memory. -/
structure DevM (w : World) (q : DevP) (D : Dev) : Prop where
  blk : Blk w q.x 117 #[q.vs, q.vo, q.vp, .map (some q.m), .bool q.set, .int .i64 q.left, q.vsv, .bool D.failed]
  st : OwnL w 0 9 1 q.vs (D.st.map strC)
  old : OwnL w 0 37 1 q.vo (q.os.map fun v => [v])
  olen : q.os.length = D.old.length
  each : ∀ (i : Nat) (v : Value) (l : List ByteArray), q.os[i]? = some v → D.old[i]? = some l → OwnL w 0 9 1 v (l.map strC) ∧ ∀ g, v.ownBlock = some g → q.vs.ownBlock ≠ some g
  pend : OwnL w 0 140 3 q.vp (D.pend.map wrC)
  sv : OwnL w 0 3 1 q.vsv (q.svl.map intC)
  map : MapI w q.m q.E
  fen : ∀ s, 1 ≤ s → s ≤ 4 → FenR (q.E s) (D.fen s)
  fuse : D.fuse = if q.set then some (q.left.toNat, q.svl) else none
  left : 0 ≤ q.left ∧ q.left ≤ 9223372036854775807
  svok : (∀ n ∈ q.svl, okI n) ∧ q.svl.length ≤ 1000000
  ok : D.Ok
/-- The blocks of a device. -/
def DevP.feet (q : DevP) (k : Nat) : Prop := k = q.x ∨ k = q.m ∨ q.vs.ownBlock = some k ∨ q.vo.ownBlock = some k ∨ q.vp.ownBlock = some k ∨ q.vsv.ownBlock = some k ∨ ∃ v ∈ q.os, v.ownBlock = some k
theorem blk_map_ne {w : World} {g m : Nat} {t : TypeId} {cs : Array Value} {F : Int → Option Value} (h : Blk w g t cs) (hm : MapI w m F) : ¬ g = m := by
  rintro rfl
  obtain ⟨es, clock, l, hb, _⟩ := hm
  unfold Blk at h
  rw [h] at hb
  injection hb with hb
  cases hb
theorem own_map_ne {w : World} {base e sz m : Nat} {v : Value} {rows : List (List Value)} {F : Int → Option Value} (h : OwnL w base e sz v rows) (hm : MapI w m F) : v.ownBlock ≠ some m := by
  rcases h.2.2 with ⟨rfl, _⟩ | ⟨g', cap, cur, rfl, _, hh, _⟩
  · simp [Value.ownBlock]
  · intro he
    have e' : g' = m := by simpa [Value.ownBlock] using he
    subst e'
    exact blk_map_ne (t := e) (cs := cur) hh hm rfl
theorem own_own_ne {w : World} {base e sz base' e' sz' : Nat} {v v' : Value} {rows rows' : List (List Value)} (h : OwnL w base e sz v rows) (h' : OwnL w base' e' sz' v' rows') (hne : e ≠ e') : ∀ g, v.ownBlock = some g → v'.ownBlock ≠ some g := by
  intro g hg
  rcases h.2.2 with ⟨rfl, _⟩ | ⟨g', cap, cur, rfl, _, hh, _⟩
  · simp [Value.ownBlock] at hg
  · have e1 : g' = g := by simpa [Value.ownBlock] using hg
    subst e1
    exact h'.ne_blk (t := e) (cs := cur) hh (fun e => hne e.symm)
section
variable {w w' : World} {q : DevP} {D : Dev}
theorem DevM.feet_lt (h : DevM w q D) (k : Nat) (hk : q.feet k) : k < w.heap.size := by
  rcases hk with rfl | rfl | hk | hk | hk | hk | ⟨v, hv, hk⟩
  · exact h.blk.lt
  · exact h.map.lt
  · exact (h.st.own_ge hk).2
  · exact (h.old.own_ge hk).2
  · exact (h.pend.own_ge hk).2
  · exact (h.sv.own_ge hk).2
  · obtain ⟨i, hi, rfl⟩ := List.mem_iff_getElem.1 hv
    have hi' : i < D.old.length := by rw [← h.olen]; exact hi
    exact ((h.each i _ _ (List.getElem?_eq_getElem hi) (List.getElem?_eq_getElem hi')).1.own_ge hk).2
/-- What turns elsewhere leaves a device. -/
theorem DevM.kept (h : DevM w q D) {S : Nat → Prop} (ht : Turned S w w') (hS : ∀ k, q.feet k → ¬ S k) : DevM w' q D := by
  refine ⟨h.blk.turned ht (hS _ (.inl rfl)), h.st.kept ht (fun g hg => hS _ (.inr (.inr (.inl hg)))), h.old.kept ht (fun g hg => hS _ (.inr (.inr (.inr (.inl hg))))), h.olen, fun i v l hv hl => ?_,
    h.pend.kept ht (fun g hg => hS _ (.inr (.inr (.inr (.inr (.inl hg)))))), h.sv.kept ht (fun g hg => hS _ (.inr (.inr (.inr (.inr (.inr (.inl hg))))))), h.map.turned ht (hS _ (.inr (.inl rfl))), h.fen, h.fuse, h.left, h.svok, h.ok⟩
  obtain ⟨h1, h2⟩ := h.each i v l hv hl
  exact ⟨h1.kept ht (fun g hg => hS _ (.inr (.inr (.inr (.inr (.inr (.inr ⟨v, List.mem_of_getElem? hv, hg⟩))))))), h2⟩
theorem DevM.grew (h : DevM w q D) (hg : Grew w w') : DevM w' q D := h.kept (hg.turned (fun _ => False)) (fun _ _ hf => hf)
theorem DevM.st_form (h : DevM w q D) : ∃ g cap, q.vs = .slice (some ⟨g, 0, none⟩) D.st.length cap ∧ g < w.heap.size ∧ D.st.length ≤ cap ∧ cap ≤ 9223372036854775807 ∧ ¬ g = q.x := by
  rcases h.st.form with ⟨_, h0⟩ | ⟨g, cap, hv, _, hlt, h1, h2⟩
  · have := congrArg List.length h0
    have hp := h.ok.pos
    simp at this
    rw [this] at hp; simp at hp
  · rw [List.length_map] at hv h1
    refine ⟨g, cap, hv, hlt, h1, h2, fun e => ?_⟩
    exact h.st.ne_blk h.blk (by decide) (by rw [hv, e]; rfl)
theorem DevM.old_form (h : DevM w q D) : ∃ g cap, q.vo = .slice (some ⟨g, 0, none⟩) D.st.length cap ∧ g < w.heap.size ∧ D.st.length ≤ cap ∧ cap ≤ 9223372036854775807 ∧ ¬ g = q.x := by
  have hlen : q.os.length = D.st.length := by rw [h.olen, h.ok.len]
  rcases h.old.form with ⟨_, h0⟩ | ⟨g, cap, hv, _, hlt, h1, h2⟩
  · have := congrArg List.length h0
    have hp := h.ok.pos
    simp at this
    rw [this] at hlen; simp at hlen; omega
  · rw [List.length_map, hlen] at hv h1
    refine ⟨g, cap, hv, hlt, h1, h2, fun e => ?_⟩
    exact h.old.ne_blk h.blk (by decide) (by rw [hv, e]; rfl)
theorem DevM.st_cell (h : DevM w q D) {g cap : Nat} (hv : q.vs = .slice (some ⟨g, 0, none⟩) D.st.length cap) {i : Nat} (hi : i < D.st.length) : w.cell? ⟨g, i, none⟩ = some (.string (D.at i)) := by
  have := h.st
  rw [hv] at this
  have h2 := this.cell (j := i) (i := 0) (r := strC (D.at i)) (by rw [List.getElem?_map, List.getElem?_eq_getElem hi]; unfold Dev.at; rw [List.getD_eq_getElem?_getD, List.getElem?_eq_getElem hi]; rfl) rfl
  rwa [Nat.mul_one, Nat.add_zero] at h2
theorem DevM.old_at (h : DevM w q D) {i : Nat} (hi : i < D.st.length) : ∃ v, q.os[i]? = some v ∧ OwnL w 0 9 1 v ((D.olds i).map strC) ∧ ∀ g, v.ownBlock = some g → q.vs.ownBlock ≠ some g := by
  have h1 : i < D.old.length := by rw [h.ok.len]; exact hi
  have h2 : i < q.os.length := by rw [h.olen]; exact h1
  refine ⟨q.os[i], List.getElem?_eq_getElem h2, ?_⟩
  have := h.each i _ _ (List.getElem?_eq_getElem h2) (List.getElem?_eq_getElem h1)
  unfold Dev.olds
  rwa [List.getD_eq_getElem?_getD, List.getElem?_eq_getElem h1]
theorem DevM.old_cell (h : DevM w q D) {g cap : Nat} (hv : q.vo = .slice (some ⟨g, 0, none⟩) D.st.length cap) {i : Nat} {v : Value} (hi : q.os[i]? = some v) : w.cell? ⟨g, i, none⟩ = some v := by
  have := h.old
  rw [hv] at this
  have h2 := this.cell (j := i) (i := 0) (r := [v]) (by rw [List.getElem?_map, hi]; rfl) rfl
  rwa [Nat.mul_one, Nat.add_zero] at h2
end
section
variable {w : World} {q : DevP} {D : Dev} (h : DevM w q D)
include h
set_option maxRecDepth 100000 in
set_option maxHeartbeats 1000000 in
theorem sectors_any : Calls Try.prog 33 #[.pointer (some ⟨q.x, 0, none⟩)] w fun e w' => e = .returned (.int .i64 (D.st.length : Int)) ∧ w = w' := by
  obtain ⟨g, cap, hv, hg, h1, h2, h3⟩ := h.st_form
  have hb := h.blk
  rw [hv] at hb
  have hxl := hb.lt
  have x0 := hb.cell 0
  clear h hv
  go_enter Try.func33, Try.ntmps33
  go_wp2_with fail
  go_ret
  exact ⟨rfl, rfl⟩
set_option maxRecDepth 100000 in
set_option maxHeartbeats 1000000 in
theorem there_any (i : Int) (b : Bool) (hb : thereD D i = b) : Calls Try.prog 75 #[.pointer (some ⟨q.x, 0, none⟩), .int .i64 i] w fun e w' => e = .returned (.bool b) ∧ w = w' := by
  obtain ⟨g, cap, hv, hg, h1, h2, h3⟩ := h.st_form
  have hk := h.blk
  rw [hv] at hk
  have hxl := hk.lt
  have x0 := hk.cell 0
  subst hb
  have HB := Lib.hid (show thereD D i = decide (0 ≤ i ∧ i < (D.st.length : Int)) from rfl)
  generalize thereD D i = b at *
  clear h hv
  by_cases h0 : 0 ≤ i
  · by_cases h1 : i < (D.st.length : Int)
    · go_enter Try.func75, Try.ntmps75
      go_wp2_with fail
      go_ret
      exact ⟨ret_bool (by rw [HB.out, decide_eq_true ⟨h0, h1⟩]), rfl⟩
    · go_enter Try.func75, Try.ntmps75
      go_wp2_with fail
      go_ret
      exact ⟨ret_bool (by rw [HB.out, decide_eq_false (by omega)]), rfl⟩
  · go_enter Try.func75, Try.ntmps75
    go_wp2_with fail
    go_ret
    exact ⟨ret_bool (by rw [HB.out, decide_eq_false (by omega)]), rfl⟩
end
end Go.Proofs.Ytbddelefglhaaaa
namespace Go.Proofs.Ytbddelefglhaaaa
set_option linter.unusedVariables false
set_option linter.unusedSimpArgs false
set_option linter.unusedSectionVars false
open Go.RowKit
open Go.Maps (Keyed)
theorem wrC_len (l : List Wr) : (l.map wrC).length = l.length := List.length_map ..
theorem wr_at {w : World} {B : Nat} {A : Option Addr} {l : List Wr} (h : ListAt w B 3 A (l.map wrC)) {k : Nat} (hk : k < l.length) :
    ∃ b off, A = some ⟨b, off, none⟩ ∧ b < B ∧ w.cell? ⟨b, off + k * 3, none⟩ = some (.int .i64 l[k].sys) ∧ w.cell? ⟨b, off + k * 3 + 1, none⟩ = some (.int .i64 (l[k].sec : Int)) ∧ w.cell? ⟨b, off + k * 3 + 2, none⟩ = some (.string l[k].data) := by
  obtain ⟨b, off, e, hb, hc⟩ := h (by simp; omega)
  have hcc := hc k (wrC l[k]) (by rw [List.getElem?_map, List.getElem?_eq_getElem hk]; rfl)
  exact ⟨b, off, e, hb, hcc 0 _ rfl, hcc 1 _ rfl, hcc 2 _ rfl⟩
theorem DevM.pend_list {w : World} {q : DevP} {D : Dev} (h : DevM w q D) : ∃ A c, q.vp = .slice A D.pend.length c ∧ D.pend.length ≤ c ∧ c ≤ 9223372036854775807 ∧ ListAt w w.heap.size 3 A (D.pend.map wrC) := by
  have := h.pend.listAt
  rwa [wrC_len] at this
section
variable {w : World} {q : DevP} {D : Dev} (h : DevM w q D)
include h
set_option maxRecDepth 100000 in
set_option maxHeartbeats 2000000 in
theorem read_any (i : Int) (s : ByteArray) (er : Int) (hr : readD D i = (s, er)) : Calls Try.prog 38 #[.pointer (some ⟨q.x, 0, none⟩), .int .i64 i] w fun e w' => e = .returned (.tuple #[.string s, .int .i64 er]) ∧ w = w' := by
  have HT := Lib.hid (fun b hb => there_any h i b hb)
  unfold readD at hr
  cases hb : thereD D i with
  | false =>
    rw [hb] at hr
    simp only [if_true] at hr
    injection hr with hr1 hr2
    subst hr1; subst hr2
    have HB := Lib.hid hb
    clear hb h
    go_enter Try.func38, Try.ntmps38
    go_wp2_with fail
    refine (HT.out false HB.out).mono ?_
    rintro e w1 ⟨rfl, rfl⟩
    go_wp2_with fail
    go_ret2
    exact ⟨rfl, rfl⟩
  | true =>
    rw [hb] at hr
    simp only [Bool.true_eq_false, if_false] at hr
    have HB := Lib.hid hb
    have h0 := of_decide_eq_true hb
    obtain ⟨k, rfl⟩ : ∃ k : Nat, i = (k : Int) := ⟨i.toNat, by omega⟩
    have hkl : k < D.st.length := by omega
    clear hb
    cases hf : D.failed with
    | true =>
      have hk := h.blk
      rw [hf] at hk
      have hxl := hk.lt
      have x5 := hk.cell 7
      rw [hf] at hr
      simp only [if_true] at hr
      injection hr with hr1 hr2
      subst hr1; subst hr2
      clear h hf
      go_enter Try.func38, Try.ntmps38
      go_wp2_with fail
      refine (HT.out true HB.out).mono ?_
      rintro e w1 ⟨rfl, rfl⟩
      go_wp2_with fail
      go_ret2
      exact ⟨rfl, rfl⟩
    | false =>
      rw [hf] at hr
      simp only [Bool.false_eq_true, if_false, Int.toNat_natCast] at hr
      injection hr with hr1 hr2
      subst hr2
      obtain ⟨gs, cs, hvs, hgs, hs1, hs2, hs3⟩ := h.st_form
      obtain ⟨A, c, hvp, hc1, hc2, hl⟩ := h.pend_list
      have y0 := h.st_cell hvs hkl
      have hk := h.blk
      rw [hf, hvs, hvp] at hk
      have hxl := hk.lt
      have x0 := hk.cell 0
      have x2 := hk.cell 2
      have x5 := hk.cell 7
      have HL := Lib.hid hl
      have HR := Lib.hid (show s = (lastW D.pend k).getD (D.at k) from hr1.symm)
      clear h hvs hvp hl hf hr1
      generalize D.at k = a at *
      generalize D.pend = P at *
      go_enter Try.func38, Try.ntmps38
      go_wp2_with fail
      refine (HT.out true HB.out).mono ?_
      rintro e w1 ⟨rfl, rfl⟩
      go_wp2_with fail
      go_loopg [6] P.length (fun gk iv wr => w = wr ∧ ∃ j : Nat, j ≤ P.length ∧ gk = j ∧ iv = .int .i64 ((j : Int) - 1) ∧ lastW P k = lastW (P.take j) k)
      case atStart => exact ⟨rfl, P.length, Nat.le_refl _, rfl, rfl, by rw [List.take_length]⟩
      case round =>
        obtain ⟨rfl, j, hj, hgk, rfl, hlast⟩ := hrel
        have HGK := Lib.hid hgk
        have HLA := Lib.hid hlast
        clear hgk hlast
        cases j with
        | zero =>
          have HZ := Lib.hid (show lastW P k = none from by rw [HLA.out]; rfl)
          go_wp2_with fail
          go_ret2
          exact ⟨ret_si (by rw [HR.out, HZ.out]; rfl) rfl, rfl⟩
        | succ j =>
          have hjl : j < P.length := hj
          obtain ⟨b, off, rfl, hbb, z0, z1, z2⟩ := wr_at HL.out hjl
          have HSN := Lib.hid (show lastW (P.take (j + 1)) k = if P[j].sec = k then some P[j].data else lastW (P.take j) k from by rw [List.take_succ_eq_append_getElem hjl, lastW_snoc])
          have hw1 : ((j + 1 : Nat) : Int) - 1 = (j : Int) := by omega
          have hge : (-1 : Int) ≤ (j : Int) := by omega
          rw [hw1]
          clear z0
          generalize P[j] = r at *
          by_cases hs : r.sec = k
          · have hsb : ((r.sec : Int) == (k : Int)) = true := by rw [hs]; exact beq_self_eq_true _
            have HS := Lib.hid hs
            clear hs
            go_wp2_with fail
            go_ret2
            exact ⟨ret_si (by rw [HR.out, HLA.out, HSN.out, if_pos HS.out]; rfl) rfl, rfl⟩
          · have hsb : ((r.sec : Int) == (k : Int)) = false := beq_eq_false_iff_ne.2 (by omega)
            have HS := Lib.hid hs
            clear hs
            go_wp2_with fail
            go_roundg j
            case measure => rw [HGK.out]; omega
            case rel => exact ⟨rfl, j, by omega, rfl, by go_num, by rw [HLA.out, HSN.out, if_neg HS.out]⟩
set_option maxRecDepth 100000 in
set_option maxHeartbeats 1000000 in
omit h in
theorem of_any (s : Int) (w : World) : Calls Try.prog 103 #[.int .i64 s] w fun e w' => e = .returned (.func (.func 113) #[] #[.pointer (some ⟨w.heap.size, 0, none⟩)]) ∧ w' = w.alloc (.cells #[.int .i64 s] 3) := by
  go_enter Try.func103, Try.ntmps103
  go_wp2_with fail
  go_ret
  exact ⟨rfl, rfl⟩
set_option maxRecDepth 100000 in
set_option maxHeartbeats 1000000 in
omit h in
theorem of1_any (s : Int) (r : Wr) (g : Nat) (W : World) (hb : Blk W g 3 #[.int .i64 s]) : Calls Try.prog 113 #[.agg #[.int .i64 r.sys, .int .i64 (r.sec : Int), .string r.data], .pointer (some ⟨g, 0, none⟩)] W fun e w' => e = .returned (.bool (ofSys s r)) ∧ Grew W w' := by
  have hlt := hb.lt
  have x0 := hb.cell 0
  go_enter Try.func113, Try.ntmps113
  go_wp2
  all_goals
    go_ret
    exact ⟨ret_bool (by unfold ofSys; first | rfl | (simp; done) | simp [*]), by (repeat' first | (with_reducible exact Grew.refl _) | (with_reducible assumption) | (with_reducible refine Grew.alloc ?_ _) | (with_reducible refine Grew.drew ?_) | (with_reducible refine Grew.drewN ?_ _) | (with_reducible refine Grew.setRow ?_ (by first | (simp; done) | (simp; omega) | omega) _) | (with_reducible refine Grew.setCell ?_ (by first | (simp; done) | (simp; omega) | omega) _) | ((with_reducible apply Grew.trans); rotate_left; (with_reducible assumption)) | ((with_reducible apply Grew.turn); rotate_left; (with_reducible assumption); (focus (intro i hi; first | omega | (simp at hi; omega)))) | fail)⟩
set_option maxRecDepth 100000 in
set_option maxHeartbeats 1000000 in
omit h in
theorem admit1_any (r : Wr) (W : World) : Calls Try.prog 109 #[.agg #[.int .i64 r.sys, .int .i64 (r.sec : Int), .string r.data]] W fun e w' => e = .returned (.bool true) ∧ Grew W w' := by
  go_enter Try.func109, Try.ntmps109
  go_wp2
  go_ret
  exact ⟨rfl, by (repeat' first | (with_reducible exact Grew.refl _) | (with_reducible assumption) | (with_reducible refine Grew.alloc ?_ _) | (with_reducible refine Grew.drew ?_) | (with_reducible refine Grew.drewN ?_ _) | (with_reducible refine Grew.setRow ?_ (by first | (simp; done) | (simp; omega) | omega) _) | (with_reducible refine Grew.setCell ?_ (by first | (simp; done) | (simp; omega) | omega) _) | ((with_reducible apply Grew.trans); rotate_left; (with_reducible assumption)) | ((with_reducible apply Grew.turn); rotate_left; (with_reducible assumption); (focus (intro i hi; first | omega | (simp at hi; omega)))) | fail)⟩
end
end Go.Proofs.Ytbddelefglhaaaa
