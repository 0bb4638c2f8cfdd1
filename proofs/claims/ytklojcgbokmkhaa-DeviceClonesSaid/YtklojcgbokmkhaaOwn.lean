/- A slice of the call's own, element by element. -/
import Derived.Test.YtklojcgbokmkhaaFrame
import Derived.Test.YtklojcgbokmkhaaOpen
import Derived.Laws.AppendOwn
import Derived.Laws.OwnMore
namespace Go.Proofs.Ytklojcgbokmkhaa
set_option linter.unusedVariables false
set_option linter.unusedSimpArgs false
set_option linter.unusedSectionVars false
open Go.RowKit
/-- The call's own slice v holds the rows, each of 'sz' cells. -/
def OwnL (w : World) (base e sz : Nat) (v : Value) (rows : List (List Value)) : Prop := (∀ r ∈ rows, r.length = sz) ∧ w.ownsRow base e sz v rows.length rows.flatten
theorem flatten_len {rows : List (List Value)} {sz : Nat} (h : ∀ r ∈ rows, r.length = sz) : rows.flatten.length = rows.length * sz := by
  induction rows with
  | nil => simp
  | cons r rows ih =>
    have h1 := h r (by simp)
    have h2 := ih (fun x hx => h x (List.mem_cons_of_mem _ hx))
    simp only [List.flatten_cons, List.length_append, List.length_cons]
    rw [h1, h2, Nat.succ_mul]; omega
theorem OwnL.nil (w : World) (base e sz : Nat) : OwnL w base e sz (.slice none 0 0) [] := ⟨by simp, World.ownsRow_nil w base e sz⟩
theorem OwnL.alloc {w : World} {base e sz : Nat} {v : Value} {rows : List (List Value)} (h : OwnL w base e sz v rows) (o : Obj) : OwnL (w.alloc o) base e sz v rows := ⟨h.1, h.2.alloc o⟩
theorem OwnL.drew {w : World} {base e sz : Nat} {v : Value} {rows : List (List Value)} (h : OwnL w base e sz v rows) : OwnL w.drew base e sz v rows := h
theorem OwnL.drewN {w : World} {base e sz : Nat} {v : Value} {rows : List (List Value)} (h : OwnL w base e sz v rows) (n : Nat) : OwnL (w.drewN n) base e sz v rows := h
theorem OwnL.kept {w w' : World} {base e sz : Nat} {v : Value} {rows : List (List Value)} (h : OwnL w base e sz v rows) {S : Nat → Prop} (ht : Turned S w w') (hS : ∀ g, v.ownBlock = some g → ¬ S g) : OwnL w' base e sz v rows := by
  refine ⟨h.1, h.2.1, ?_⟩
  rcases h.2.2 with h0 | ⟨g, cap, cur, hv, hb, hh, hr⟩
  · exact .inl h0
  · refine .inr ⟨g, cap, cur, hv, hb, ?_, hr⟩
    have hlt : g < w.heap.size := Blk.lt (t := e) (cs := cur) hh
    rw [ht.block g hlt (hS g (by rw [hv]; rfl)), hh]
theorem OwnL.grew {w w' : World} {base e sz : Nat} {v : Value} {rows : List (List Value)} (h : OwnL w base e sz v rows) (ht : Grew w w') : OwnL w' base e sz v rows := h.kept (ht.turned (fun _ => False)) (fun _ _ hf => hf)
theorem OwnL.far {w : World} {base e sz : Nat} {v : Value} {rows : List (List Value)} (h : OwnL w base e sz v rows) {p : Addr} (hp : v.ownBlock ≠ some p.block) (u : Value) : OwnL (w.setCell p u) base e sz v rows :=
  h.kept (S := fun x => x = p.block) ((Turned.refl (fun x => x = p.block) w).setCell (p := p) (fun _ => rfl) u) (fun g hg he => hp (by rw [hg, he]))
theorem OwnL.farRow {w : World} {base e sz : Nat} {v : Value} {rows : List (List Value)} (h : OwnL w base e sz v rows) {g' : Nat} (hp : v.ownBlock ≠ some g') (cs : Array Value) : OwnL (w.setRow g' cs) base e sz v rows :=
  h.kept (S := fun x => x = g') ((Turned.refl (fun x => x = g') w).setRow (g := g') (fun _ => rfl) cs) (fun g hg he => hp (by rw [hg, he]))
theorem OwnL.ne_blk {w : World} {base e sz g : Nat} {t : TypeId} {cs : Array Value} {v : Value} {rows : List (List Value)} (h : OwnL w base e sz v rows) (hb : Blk w g t cs) (hne : e ≠ t) : v.ownBlock ≠ some g := by
  rcases h.2.2 with ⟨rfl, _⟩ | ⟨g', cap, cur, rfl, _, hh, _⟩
  · simp [Value.ownBlock]
  · intro he
    have : g' = g := by simpa [Value.ownBlock] using he
    subst this
    exact Blk.ne_ (t := e) hh hb hne rfl
theorem OwnL.own_ge {w : World} {base e sz g : Nat} {v : Value} {rows : List (List Value)} (h : OwnL w base e sz v rows) (hg : v.ownBlock = some g) : base ≤ g ∧ g < w.heap.size := h.2.lt g hg
theorem OwnL.empty (w : World) (base e sz : Nat) (hb : base ≤ w.heap.size) {n : Nat} (hn : n = w.heap.size) : OwnL (w.alloc (.cells #[] e)) base e sz (.slice (some ⟨n, 0, none⟩) 0 0) [] := by
  subst hn
  exact ⟨by simp, World.ownsRow_lit w #[] 0 hb (by simp) (by simp)⟩
/-- The slice's form, and the cells of its rows. -/
theorem OwnL.form {w : World} {base e sz : Nat} {v : Value} {rows : List (List Value)} (h : OwnL w base e sz v rows) :
    (v = .slice none 0 0 ∧ rows = []) ∨ ∃ g cap, v = .slice (some ⟨g, 0, none⟩) rows.length cap ∧ base ≤ g ∧ g < w.heap.size ∧ rows.length ≤ cap ∧ cap ≤ 9223372036854775807 := by
  rcases h.2.2 with ⟨h0, hn⟩ | ⟨g, cap, cur, hv, hb, hh, hn, hm, _⟩
  · exact .inl ⟨h0, List.length_eq_zero_iff.1 hn⟩
  · exact .inr ⟨g, cap, hv, hb, Blk.lt (t := e) (cs := cur) hh, hn, by unfold maxLen at hm; simpa using hm⟩
theorem flatten_at {rows : List (List Value)} {sz : Nat} (h : ∀ r ∈ rows, r.length = sz) : ∀ (j i : Nat) (r : List Value) (u : Value), rows[j]? = some r → r[i]? = some u → rows.flatten[j * sz + i]? = some u := by
  induction rows with
  | nil => intro j i r u hr; simp at hr
  | cons x rows ih =>
    intro j i r u hr hu
    have hx := h x (by simp)
    rw [List.flatten_cons]
    cases j with
    | zero =>
      simp at hr
      subst hr
      rw [Nat.zero_mul, Nat.zero_add, List.getElem?_append_left (List.getElem?_eq_some_iff.1 hu).1]
      exact hu
    | succ j =>
      simp at hr
      rw [List.getElem?_append_right (by rw [hx, Nat.succ_mul]; omega), hx, show (j + 1) * sz + i - sz = j * sz + i from by rw [Nat.succ_mul]; omega]
      exact ih (fun y hy => h y (List.mem_cons_of_mem _ hy)) j i r u hr hu
theorem OwnL.cell {w : World} {base e sz g n cap : Nat} {rows : List (List Value)} (h : OwnL w base e sz (.slice (some ⟨g, 0, none⟩) n cap) rows) {j i : Nat} {r : List Value} {u : Value} (hj : rows[j]? = some r) (hi : r[i]? = some u) : w.cell? ⟨g, j * sz + i, none⟩ = some u := by
  have := h.2.cells (g := g) rfl (j * sz + i) u (flatten_at h.1 j i r u hj hi)
  rwa [add_plain, Nat.zero_add] at this
theorem OwnL.frozen {w : World} {base e sz g n cap : Nat} {rows : List (List Value)} (h : OwnL w base e sz (.slice (some ⟨g, 0, none⟩) n cap) rows) (j : Nat) : w.frozen? ⟨g, j, none⟩ = false := by
  rcases h.2.2 with ⟨h0, _⟩ | ⟨g', cap', cur, hv, _, hh, _⟩
  · cases h0
  · injection hv with hv _ _
    injection hv with hv
    injection hv with hv _ _
    subst hv
    exact Blk.frozen (t := e) (cs := cur) hh j
/-- The call's own slice, read as an argument. -/
theorem OwnL.listAt {w : World} {base e sz : Nat} {v : Value} {rows : List (List Value)} (h : OwnL w base e sz v rows) : ∃ A c, v = .slice A rows.length c ∧ rows.length ≤ c ∧ c ≤ 9223372036854775807 ∧ ListAt w w.heap.size sz A rows := by
  rcases h.form with ⟨rfl, rfl⟩ | ⟨g, cap, rfl, hb, hlt, h1, h2⟩
  · exact ⟨none, 0, rfl, by simp, by simp, fun h => absurd h (by simp)⟩
  · refine ⟨_, cap, rfl, h1, h2, fun _ => ⟨g, 0, rfl, hlt, fun j cs hj i u hi => ?_⟩⟩
    rw [Nat.zero_add]
    exact h.cell hj hi
theorem set_flatten {rows : List (List Value)} {sz : Nat} (h : ∀ r ∈ rows, r.length = sz) : ∀ (j i : Nat) (r : List Value) (u : Value), rows[j]? = some r → i < sz → rows.flatten.set (j * sz + i) u = (rows.set j (r.set i u)).flatten := by
  induction rows with
  | nil => intro j i r u hr; simp at hr
  | cons x rows ih =>
    intro j i r u hr hi
    have hx := h x (by simp)
    cases j with
    | zero =>
      simp at hr
      subst hr
      rw [Nat.zero_mul, Nat.zero_add, List.set_cons_zero, List.flatten_cons, List.flatten_cons, List.set_append_left _ _ (by omega)]
    | succ j =>
      simp at hr
      rw [List.set_cons_succ, List.flatten_cons, List.flatten_cons, List.set_append_right _ _ (by rw [hx, Nat.succ_mul]; omega), hx, show (j + 1) * sz + i - sz = j * sz + i from by rw [Nat.succ_mul]; omega]
      rw [ih (fun y hy => h y (List.mem_cons_of_mem _ hy)) j i r u hr hi]
theorem OwnL.set_ {w : World} {base e sz g n cap : Nat} {rows : List (List Value)} (h : OwnL w base e sz (.slice (some ⟨g, 0, none⟩) n cap) rows) {j i o : Nat} {r : List Value} (hj : rows[j]? = some r) (hi : i < sz) (ho : o = j * sz + i) (u : Value) :
    OwnL (w.setCell ⟨g, o, none⟩ u) base e sz (.slice (some ⟨g, 0, none⟩) n cap) (rows.set j (r.set i u)) := by
  subst ho
  refine ⟨fun x hx => ?_, ?_⟩
  · rcases List.mem_or_eq_of_mem_set hx with hx | rfl
    · exact h.1 x hx
    · rw [List.length_set]; exact h.1 r (List.mem_of_getElem? hj)
  · have hn : rows.length = n := by
      rcases h.2.2 with ⟨h0, _⟩ | ⟨g', cap', cur, hv, _⟩
      · cases h0
      · injection hv with _ hv _; exact hv.symm
    have h2 := h.2
    rw [hn] at h2
    have := h2.stored (j * sz + i) u
    rw [set_flatten h.1 j i r u hj hi] at this
    rw [List.length_set, hn]
    exact this.1
/-- What an append may have turned: the row itself, if it is the call's own. -/
theorem Grew.own {a w w' : World} {base : Nat} {row : Option Nat} (h : Grew a w) (hg : w.grownBy w' row) (hr : ∀ k, row = some k → base ≤ k) (hb : a.heap.size ≤ base) : Grew a w' :=
  h.trans' ⟨hg.os, hg.tape, hg.output, hg.size, fun k hk => hg.block k (Nat.lt_of_lt_of_le hk h.size) (fun e => by have := hr k e.symm; omega)⟩
theorem Blk.own {w w' : World} {g : Nat} {t : TypeId} {cs : Array Value} {row : Option Nat} (h : Blk w g t cs) (hg : w.grownBy w' row) (hne : row ≠ some g) : Blk w' g t cs := (hg.block g h.lt (fun e => hne e.symm)).trans h
section
variable {P : Program}
/-- 'v = append(v, row)': the element lies in a block of its own just made. -/
theorem wpList_push {W' : World} {ops : Array Oper} {rest : List Oper} {o : Oper} {a : Act} {Q : Exit → Act → World → Prop} (hgd : o.guard = none) (s x : Operand) (t : TypeId)
    (ho : o.op = .call { callee := .builtin .append, args := #[s, x], argTypes := #[t, t] })
    (base e size bytes : Nat) (z : Value) (ht : P.underlying t = some (.slice e)) (hi : (P.info? e).map (fun i => (i.zero, i.size, i.bytes)) = some (some z, size, bytes)) (hzs : z.cells.size = size) (hsz : 0 < size)
    (W : World) (v : Value) (rows : List (List Value)) (row : List Value) (hW : W' = W.alloc (.cells row.toArray e)) (hrow : row.length = size) (hs : a.eval s = v) (hown : OwnL W base e size v rows) {gN : Nat} (hgN : gN = W.heap.size) (hx : a.eval x = .slice (some ⟨gN, 0, none⟩) 1 1) (h1 : row.all (·.oneCell') = true)
    (hlen : (rows.length + 1) * bytes ≤ 140737488355328) (h63 : rows.length + 1 ≤ 9223372036854775807) (hbase : base ≤ W.heap.size)
    (h : ∀ v' w', OwnL w' base e size v' (rows ++ [row]) → (∀ b, Grew b W → b.heap.size ≤ base → Grew b w') → (∀ g t' cs, Blk W g t' cs → v.ownBlock ≠ some g → Blk w' g t' cs) → W.heap.size < w'.heap.size → wpList P ops Q rest (a.put o.dst v') w') :
    wpList P ops Q (o :: rest) a W' := by
  subst hW
  subst hgN
  obtain ⟨i, hi', hz0, hz1, hz2⟩ : ∃ i, P.info? e = some i ∧ i.zero = some z ∧ i.size = size ∧ i.bytes = bytes := by
    cases hq : P.info? e with
    | none => rw [hq] at hi; cases hi
    | some i => rw [hq] at hi; simp at hi; exact ⟨i, rfl, hi.1, hi.2.1, hi.2.2⟩
  refine wpList_append_own (w := W.alloc (.cells row.toArray e)) hgd s x t ho base e i z size bytes ht hi' hz0 hz1 hz2 hzs hsz v rows.length rows.flatten hs (hown.2.alloc _) ⟨W.heap.size, 0, none⟩ 1 1 row hx (by omega)
    (fun j u hj => by rw [add_plain, Nat.zero_add, cell_of_row _ _ _ _ _ _ (heap_alloc_new W _)]; simpa using hj) (fun u hu => List.all_eq_true.1 h1 u hu) (by unfold maxLen; omega) hlen (by simp; omega) ?_
  intro v' w' hown' hg _
  have hr : ∀ k, v.ownBlock = some k → base ≤ k := fun k hk => (hown.2.lt k hk).1
  refine h v' w' ⟨?_, ?_⟩ (fun b hb hbb => (hb.alloc _).own hg hr hbb) (fun g t' cs hb hne => (hb.alloc _).own hg hne) (by have := hg.size; simp at this; omega)
  · intro r hr'
    rcases List.mem_append.1 hr' with hr' | hr'
    · exact hown.1 r hr'
    · rw [List.mem_singleton.1 hr']; exact hrow
  · rw [List.flatten_append, List.length_append]
    simpa using hown'
end
end Go.Proofs.Ytklojcgbokmkhaa
