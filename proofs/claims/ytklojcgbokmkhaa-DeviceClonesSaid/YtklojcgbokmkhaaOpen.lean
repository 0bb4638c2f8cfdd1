/- Arguments opened: a slice whose elements are known by their cells; a struct of one-cell fields. -/
import Derived.Test.YtklojcgbokmkhaaFrame
import Derived.ProofKit
import Derived.OpenShut
import Derived.Deep.Slices
import Derived.Deep.Fields
import Derived.ChangeSame
namespace Go.Proofs.Ytklojcgbokmkhaa
set_option linter.unusedVariables false
set_option linter.unusedSimpArgs false
set_option linter.unusedSectionVars false
open Go.ChangeShapes Go.WideShapes Go.ChangeAt Go.RowKit Go.Deep
/-- A slice in memory: element j's cells lie from 'off + j * sz' on. -/
def ListAt (w : World) (B sz : Nat) (A : Option Addr) (cells : List (List Value)) : Prop :=
  0 < cells.length → ∃ b off, A = some ⟨b, off, none⟩ ∧ b < B ∧ ∀ j cs, cells[j]? = some cs → ∀ i v, cs[i]? = some v → w.cell? ⟨b, off + j * sz + i, none⟩ = some v
theorem ListAt.keep {w w' : World} {B sz : Nat} {A : Option Addr} {cells : List (List Value)} (h : ListAt w B sz A cells) (hB : B ≤ w.heap.size) (hk : Grew w w') : ListAt w' B sz A cells :=
  fun hl => by
    obtain ⟨b, off, e, hb, hc⟩ := h hl
    exact ⟨b, off, e, hb, fun j cs hj i v hi => by rw [hk.cellEq _ _ (by omega)]; exact hc j cs hj i v hi⟩
theorem ListAt.mono {w : World} {B B' sz : Nat} {A : Option Addr} {cells : List (List Value)} (h : ListAt w B sz A cells) (hB : B ≤ B') : ListAt w B' sz A cells :=
  fun hl => by
    obtain ⟨b, off, e, hb, hc⟩ := h hl
    exact ⟨b, off, e, by omega, hc⟩
theorem cell_lt {w : World} {a : Addr} {v : Value} (h : w.cell? a = some v) : a.block < w.heap.size ∧ a.spot = none := by
  unfold World.cell? at h
  constructor
  · rcases Nat.lt_or_ge a.block w.heap.size with hlt | hge
    · exact hlt
    · rw [Array.getElem?_eq_none hge] at h; cases h
  · split at h
    · split at h
      · cases h
      · rename_i hs
        cases hsp : a.spot with
        | none => rfl
        | some x => rw [hsp] at hs; exact absurd rfl hs
    · cases h
theorem add_plain (b off n : Nat) : (⟨b, off, none⟩ : Addr).add n = ⟨b, off + n, none⟩ := by unfold Addr.add; split <;> simp_all
section
variable {H : Type} {enc : TypeId × Value → H} {P : Program} {w : World}
theorem open_list {α : Type} [Inhabited α] {r : Reach} {b0 t e : Nat} {sz : Nat} {v : Value} {d : DataW H} {ps : List MemPlace} (ht : P.underlying t = some (.slice e)) (hsz : P.cellsOf e = sz) (hpos : 0 < sz) (f : α → List Value) (Pr : α → Prop)
    (hel : ∀ n cs y, cs.length = sz → DataW.trod enc P w 0 (fun _ => true) true n e cs = some y → ∃ a, Pr a ∧ cs = f a)
    (hv : Value.okWide P w r b0 t v) (hd : DataW.Trod enc P w 0 (fun _ => true) true t v d ps) :
    ∃ A c, ∃ l : List α, v = .slice A l.length c ∧ l.length ≤ c ∧ c ≤ 9223372036854775807 ∧ (∀ a ∈ l, Pr a) ∧ ListAt w w.heap.size sz A (l.map f) := by
  obtain ⟨A, n, c, rfl⟩ := okWide_slice ht hv
  obtain ⟨fuel, hf⟩ := hd
  rcases open_slice ht hf with ⟨h0, _⟩ | ⟨a, len, cap, m, n', D, Pl, hcs, hb, hl, hm, hmm, hx, hi⟩
  · simp only [Value.cells, List.cons.injEq, and_true] at h0
    injection h0 with h1 h2 h3
    subst h1; subst h2; subst h3
    exact ⟨none, 0, [], rfl, by simp, by simp, by simp, fun h => absurd h (by simp)⟩
  · simp only [Value.cells, List.cons.injEq, and_true] at hcs
    injection hcs with h1 h2 h3
    subst h1; subst h2; subst h3
    rw [if_pos rfl] at hmm
    have hlm : n ≤ m := by omega
    have each : ∀ i, i < n → ∃ x : α, Pr x ∧ ∃ cs, cs = f x ∧ cs.length = sz ∧ w.cells? 0 (a.add (i * sz)) sz = some cs := fun i hin => by
      obtain ⟨cs', hc, ht'⟩ := hi i (by omega)
      rw [hsz] at hc
      have hlen := (World.cells?_some hc).2.1
      obtain ⟨x, hp, hcs⟩ := hel n' cs' _ hlen ht'
      exact ⟨x, hp, cs', hcs, hlen, hc⟩
    obtain ⟨g, hg⟩ := choose_lt each
    refine ⟨some a, c, (List.range n).map g, by simp, by simpa using hl, by unfold maxLen at hm; simpa using hm, ?_, fun h0 => ?_⟩
    · intro x hx
      rw [List.mem_map] at hx
      obtain ⟨i, hi', rfl⟩ := hx
      exact (hg i (List.mem_range.1 hi')).1
    · have hn : 0 < n := by simpa using h0
      obtain ⟨_, cs0, hcs0, hlen0, hc0⟩ := hg 0 hn
      have h1 := (World.cells?_some hc0).2.2 0 hpos
      rw [Nat.zero_mul] at h1
      have hv0 : cs0[0]? = some cs0[0] := List.getElem?_eq_getElem (by omega)
      have ha : (a.add 0).add 0 = a := by simp [Addr.add]
      rw [ha, hv0] at h1
      obtain ⟨hlt, hsp⟩ := cell_lt h1
      obtain ⟨b, off, sp⟩ := a
      simp only at hsp hlt
      subst hsp
      refine ⟨b, off, rfl, hlt, fun j cs hj i v hiv => ?_⟩
      have hjn : j < n := by
        rcases Nat.lt_or_ge j n with h | h
        · exact h
        · rw [List.getElem?_eq_none (by simpa using h)] at hj; cases hj
      obtain ⟨_, cs1, hcs1, hlen1, hc1⟩ := hg j hjn
      have hcs : cs = cs1 := by
        simp [List.getElem?_map, List.getElem?_range, hjn] at hj
        rw [← hj, hcs1]
      subst hcs
      have hil : i < sz := by
        rcases Nat.lt_or_ge i cs.length with h | h
        · omega
        · rw [List.getElem?_eq_none h] at hiv; cases hiv
      have h2 := (World.cells?_some hc1).2.2 i hil
      rw [add_plain, add_plain] at h2
      rw [h2, hiv]
theorem struct_fields {fs : Array Field} {e n : Nat} {cs : List Value} {y : DataW H × List MemPlace} {base : Nat} {sp : Nat → Bool} {hd : Bool} (he : P.underlying e = some (.struct fs)) (hone : oneCellFields P fs = true) (h : DataW.trod enc P w base sp hd n e cs = some y) :
    ∀ (j : Nat) (f : Field), fs[j]? = some f → j < cs.length → ∃ v n' y', cs[j]? = some v ∧ DataW.trod enc P w base sp hd n' f.type [v] = some y' := by
  intro j f hj hjl
  obtain ⟨ys, n', hn', hy, hlen, hyl, hf⟩ := DataW.trod_struct he h
  obtain ⟨ho, hk⟩ := hone_of hone j f hj
  have hjf : j < fs.size := (Array.getElem?_eq_some_iff.1 hj).1
  have h1 := hf j f hj
  rw [ho, hk] at h1
  have hone' : (cs.drop j).take 1 = [cs[j]'hjl] := by
    rw [List.drop_eq_getElem_cons hjl]
    rfl
  rw [hone'] at h1
  have hys : ys[j]? = some (ys[j]'(by omega)) := List.getElem?_eq_getElem (by omega)
  exact ⟨_, _, _, List.getElem?_eq_getElem hjl, h1.trans hys⟩
end
end Go.Proofs.Ytklojcgbokmkhaa
