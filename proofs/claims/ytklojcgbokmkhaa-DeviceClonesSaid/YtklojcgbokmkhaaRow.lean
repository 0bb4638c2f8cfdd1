/- Whole blocks, loaded and stored at once; an array of truth values; a list of runs in memory. -/
import Derived.Test.YtklojcgbokmkhaaFrame
import Derived.Test.YtklojcgbokmkhaaOpen
import Derived.Laws.Tables
import Derived.Laws.Rows
import Derived.Deep.MidRow
namespace Go.Proofs.Ytklojcgbokmkhaa
set_option linter.unusedVariables false
set_option linter.unusedSimpArgs false
set_option linter.unusedSectionVars false
open Go.RowKit
theorem wpList_load_blk {P : Program} {ops : Array Oper} {rest : List Oper} {op : Oper} {a : Act} {w : World} {Q : Exit → Act → World → Prop} (hgd : op.guard = none) (ty : TypeId) (x : Operand) (ho : op.op = .load ty x)
    (g : Nat) (hx : a.eval x = .pointer (some ⟨g, 0, none⟩)) (t : TypeId) (cs : Array Value) (d : TypeDesc) (hb : Blk w g t cs)
    (hu : P.underlying ty = some d) (hd : (match d with | .struct _ | .array _ _ => true | _ => false) = true) (hi : (P.info? ty).map (·.size) = some cs.size)
    (h : wpList P ops Q rest (a.put op.dst (.agg cs)) w) : wpList P ops Q (op :: rest) a w :=
  wpList_load_row hgd ty x ho g hx t cs (0, 0) d hb hu hd hi h
theorem wpList_store_blk {P : Program} {ops : Array Oper} {rest : List Oper} {op : Oper} {a : Act} {w : World} {Q : Exit → Act → World → Prop} (hgd : op.guard = none) (ty : TypeId) (x y : Operand) (ho : op.op = .store ty x y)
    (g : Nat) (cells : Array Value) (hx : a.eval x = .pointer (some ⟨g, 0, none⟩)) (hy : a.eval y = .agg cells) (t : TypeId) (old : Array Value) (hb : Blk w g t old) (hs : old.size = cells.size)
    (hi : (P.info? ty).map (·.size) = some cells.size) (h1 : cells.all (·.oneCell') = true)
    (h : wpList P ops Q rest (a.put op.dst undef) (w.setRow g cells)) : wpList P ops Q (op :: rest) a w :=
  wpList_plain hgd fun _ hK => by
    unfold Oper.wp execOp
    simp only [ho, hx, hy, Instr.storeAt, Instr.sureAddr, Sem.run_bind, Sem.run_pure, Result.andThen_ok, run_storeVar_row w g t ty old cells hb hi hs h1]
    exact hK _ _ h
/-- An array of 128 truth values. -/
def boolArr (S : Nat → Bool) : Array Value := ((List.range 128).map fun i => Value.bool (S i)).toArray
theorem boolArr_size (S : Nat → Bool) : (boolArr S).size = 128 := by simp [boolArr]
theorem boolArr_get (S : Nat → Bool) (k : Nat) (h : k < 128) : (boolArr S)[k]? = some (.bool (S k)) := by
  simp [boolArr, List.getElem?_map, List.getElem?_range, h]
theorem boolArr_set (S : Nat → Bool) (k : Nat) (b : Bool) : (boolArr S).setIfInBounds k (.bool b) = boolArr (fun i => if i = k then b else S i) := by
  simp only [boolArr, List.setIfInBounds_toArray]
  congr 1
  apply List.ext_getElem?
  intro i
  rw [List.getElem?_set]
  by_cases h : k = i
  · subst h
    by_cases hk : k < 128
    · simp [hk]
    · simp [hk]
  · rw [if_neg h]
    by_cases hi : i < 128
    · simp [hi, Ne.symm h]
    · simp [hi]
theorem boolArr_congr {S T : Nat → Bool} (h : ∀ i, i < 128 → S i = T i) : boolArr S = boolArr T := by
  unfold boolArr
  congr 1
  apply List.map_congr_left
  intro i hi
  rw [h i (List.mem_range.1 hi)]
theorem boolArr_one (S : Nat → Bool) : (boolArr S).all (·.oneCell') = true := by
  rw [boolArr, List.all_toArray, List.all_eq_true]
  intro v hv
  obtain ⟨i, _, rfl⟩ := List.mem_map.1 hv
  rfl
/-- A run as two cells. -/
def runC (r : Int × Int) : List Value := [.int .i64 r.1, .int .i64 r.2]
def okRun (r : Int × Int) : Prop := -9223372036854775808 ≤ r.1 ∧ r.1 ≤ 9223372036854775807 ∧ -9223372036854775808 ≤ r.2 ∧ r.2 ≤ 9223372036854775807
/-- A list of runs in memory. -/
def RunsAt (w : World) (B : Nat) (A : Option Addr) (l : List (Int × Int)) : Prop := (∀ r ∈ l, okRun r) ∧ ListAt w B 2 A (l.map runC)
theorem RunsAt.keep {w w' : World} {B : Nat} {A : Option Addr} {l : List (Int × Int)} (h : RunsAt w B A l) (hB : B ≤ w.heap.size) (hk : Grew w w') : RunsAt w' B A l := ⟨h.1, h.2.keep hB hk⟩
theorem RunsAt.at_ {w : World} {B : Nat} {A : Option Addr} {l : List (Int × Int)} (h : RunsAt w B A l) {k : Nat} (hk : k < l.length) :
    ∃ b off f c, A = some ⟨b, off, none⟩ ∧ b < B ∧ l[k] = (f, c) ∧ okRun (f, c) ∧ w.cell? ⟨b, off + k * 2, none⟩ = some (.int .i64 f) ∧ w.cell? ⟨b, off + k * 2 + 1, none⟩ = some (.int .i64 c) := by
  obtain ⟨b, off, e, hb, hc⟩ := h.2 (by simp; omega)
  have hl : (l.map runC)[k]? = some (runC l[k]) := by rw [List.getElem?_map, List.getElem?_eq_getElem hk]; rfl
  have hcc := hc k _ hl
  have hok := h.1 l[k] (List.getElem_mem hk)
  rcases hv : l[k] with ⟨f, c⟩
  rw [hv] at hcc hok
  exact ⟨b, off, f, c, e, hb, rfl, hok, hcc 0 _ rfl, hcc 1 _ rfl⟩
end Go.Proofs.Ytklojcgbokmkhaa
