/- 'append(v, x...)': a whole list appended to a slice of the call's own. -/
import Derived.Test.YtklojcgbokmkhaaOwn
import Derived.Maps.AppendAt
import Derived.OwnWalk
namespace Go.Proofs.Ytklojcgbokmkhaa
set_option linter.unusedVariables false
set_option linter.unusedSimpArgs false
set_option linter.unusedSectionVars false
open Go.RowKit
theorem flatten_row {rows : List (List Value)} {sz : Nat} (h : ∀ r ∈ rows, r.length = sz) : ∀ (q : Nat) (u : Value), rows.flatten[q]? = some u → ∃ j i r, rows[j]? = some r ∧ r[i]? = some u ∧ q = j * sz + i := by
  induction rows with
  | nil => intro q u hq; simp at hq
  | cons x rows ih =>
    intro q u hq
    have hx := h x (by simp)
    rw [List.flatten_cons] at hq
    rcases Nat.lt_or_ge q x.length with hlt | hge
    · rw [List.getElem?_append_left hlt] at hq
      exact ⟨0, q, x, rfl, hq, by omega⟩
    · rw [List.getElem?_append_right hge] at hq
      obtain ⟨j, i, r, h1, h2, h3⟩ := ih (fun y hy => h y (List.mem_cons_of_mem _ hy)) _ u hq
      exact ⟨j + 1, i, r, h1, h2, by rw [Nat.succ_mul]; omega⟩
section
variable {P : Program}
theorem run_append_empty {w : World} (base : Nat) (t ty e : TypeId) (i : TypeInfo) (size : Nat) (ht : P.underlying t = some (.slice e)) (hi : P.info? e = some i)
    (v : Value) (n : Nat) (xs : List Value) (hown : w.ownsRow base e size v n xs) (c : Nat) : (Builtin.append_ #[t, t] ty #[v, .slice none 0 c]).run P w = .ok v w := by
  rcases hown.2 with ⟨rfl, rfl⟩ | ⟨g, cap, cur, rfl, _, _, hnc, _⟩
  · simp [Builtin.append_, run_underlying ht, sizeOf, typeInfo, hi, Builtin.lenOf, Builtin.firstCells]
  · simp [Builtin.append_, run_underlying ht, sizeOf, typeInfo, hi, Builtin.lenOf, Builtin.firstCells, hnc, storeCells]
theorem wpList_pushAll {W : World} {ops : Array Oper} {rest : List Oper} {o : Oper} {a : Act} {Q : Exit → Act → World → Prop} (hwt : Region.wanted o (yielded ops a.tmps) = true) (s x : Operand) (t : TypeId)
    (ho : o.op = .call { callee := .builtin .append, args := #[s, x], argTypes := #[t, t] })
    (base e size bytes : Nat) (z : Value) (ht : P.underlying t = some (.slice e)) (hi : (P.info? e).map (fun i => (i.zero, i.size, i.bytes)) = some (some z, size, bytes)) (hzs : z.cells.size = size) (hsz : 0 < size)
    (v : Value) (rows rows' : List (List Value)) (hs : a.eval s = v) (hown : OwnL W base e size v rows) (A : Option Addr) (m c : Nat) (hx : a.eval x = .slice A m c) (hm : m = rows'.length) (hlen' : ∀ r ∈ rows', r.length = size) (hl : ListAt W W.heap.size size A rows') (h1 : ∀ r ∈ rows', r.all (·.oneCell') = true)
    (hlen : (rows.length + m) * bytes ≤ 140737488355328) (h63 : rows.length + m ≤ 9223372036854775807) (hbase : base ≤ W.heap.size)
    (h : ∀ v' w', OwnL w' base e size v' (rows ++ rows') → W.grownBy w' v.ownBlock → (v'.ownBlock = v.ownBlock ∨ v'.ownBlock = some W.heap.size) → wpList P ops Q rest (a.put o.dst v') w') :
    wpList P ops Q (o :: rest) a W := by
  subst hm
  obtain ⟨i, hi', hz0, hz1, hz2⟩ : ∃ i, P.info? e = some i ∧ i.zero = some z ∧ i.size = size ∧ i.bytes = bytes := by
    cases hq : P.info? e with
    | none => rw [hq] at hi; cases hi
    | some i => rw [hq] at hi; simp at hi; exact ⟨i, rfl, hi.1, hi.2.1, hi.2.2⟩
  have hflat := flatten_len hlen'
  obtain ⟨v', w', hrun, hown', hg, hat⟩ : ∃ v' w', (Builtin.append_ #[t, t] o.type #[v, .slice A rows'.length c]).run P W = .ok v' w' ∧ w'.ownsRow base e size v' (rows.length + rows'.length) (rows.flatten ++ rows'.flatten) ∧ W.grownBy w' v.ownBlock ∧
      (v'.ownBlock = v.ownBlock ∨ v'.ownBlock = some W.heap.size) := by
    cases A with
    | none =>
      have h0 : rows' = [] := by
        rcases Nat.eq_zero_or_pos rows'.length with h0 | h0
        · exact List.length_eq_zero_iff.1 h0
        · obtain ⟨b, off, e, _⟩ := hl h0
          cases e
      subst h0
      exact ⟨v, W, run_append_empty base t o.type e i size ht hi' v _ _ hown.2 c, by simpa using hown.2, World.grownBy.refl W _, .inl rfl⟩
    | some ad =>
      obtain ⟨v', w', hrun, h2, h3, _, h5⟩ := run_append_own_at (P := P) W base t o.type e i z size bytes ht hi' hz0 hz1 hz2 hzs hsz v rows.length rows.flatten hown.2 ad rows'.length c rows'.flatten hflat
        (fun q u hq => by
          obtain ⟨j, i, r, hj, hir, hqq⟩ := flatten_row hlen' q u hq
          obtain ⟨b, off, e, _, hc⟩ := hl (by have := (List.getElem?_eq_some_iff.1 hj).1; omega)
          injection e with e
          subst e
          rw [add_plain, hqq, ← Nat.add_assoc]
          exact hc j r hj i u hir)
        (fun u hu => by
          obtain ⟨r, hr, hur⟩ := List.mem_flatten.1 hu
          exact List.all_eq_true.1 (h1 r hr) u hur) (by unfold maxLen; omega) hlen hbase
      exact ⟨v', w', hrun, h2, h3, h5⟩
  have hK : ∀ K : Act → World → Prop, K (a.put o.dst v') w' → o.wp P a W K Q := by
    intro K hk
    unfold Oper.wp execOp
    simp only [ho, resolve, invoke, builtin, Sem.run_bind, Sem.run_pure, Result.andThen_ok, List.map_toArray, List.map_cons, List.map_nil, hs, hx, hrun]
    exact hk
  have hend := h v' w' ⟨fun r hr => (List.mem_append.1 hr).elim (hown.1 r) (hlen' r), by rw [List.flatten_append, List.length_append]; exact hown'⟩ hg hat
  exact wpList_step fun K hk => by rw [if_pos hwt]; exact hK K (hk _ _ hend)
end
end Go.Proofs.Ytklojcgbokmkhaa
