/- 'append(v, x...)' at a step of a region that draws its order; parts of a list. -/
import Derived.Test.YtklojcgbokmkhaaApp
import Derived.Test.YtklojcgbokmkhaaOrd
namespace Go.Proofs.Ytklojcgbokmkhaa
set_option linter.unusedVariables false
set_option linter.unusedSimpArgs false
set_option linter.unusedSectionVars false
open Go.RowKit
section
variable {P : Program}
theorem wp_pushAll {W : World} {o : Oper} {a : Act} {K : Act → World → Prop} {Q : Exit → Act → World → Prop} (s x : Operand) (t : TypeId)
    (ho : o.op = .call { callee := .builtin .append, args := #[s, x], argTypes := #[t, t] })
    (base e size bytes : Nat) (z : Value) (ht : P.underlying t = some (.slice e)) (hi : (P.info? e).map (fun i => (i.zero, i.size, i.bytes)) = some (some z, size, bytes)) (hzs : z.cells.size = size) (hsz : 0 < size)
    (v : Value) (rows rows' : List (List Value)) (hs : a.eval s = v) (hown : OwnL W base e size v rows) (A : Option Addr) (m c : Nat) (hx : a.eval x = .slice A m c) (hm : m = rows'.length) (hlen' : ∀ r ∈ rows', r.length = size) (hl : ListAt W W.heap.size size A rows') (h1 : ∀ r ∈ rows', r.all (·.oneCell') = true)
    (hlen : (rows.length + m) * bytes ≤ 140737488355328) (h63 : rows.length + m ≤ 9223372036854775807) (hbase : base ≤ W.heap.size)
    (h : ∀ v' w', OwnL w' base e size v' (rows ++ rows') → W.grownBy w' v.ownBlock → (v'.ownBlock = v.ownBlock ∨ v'.ownBlock = some W.heap.size) → K (a.put o.dst v') w') :
    o.wp P a W K Q := by
  subst hm
  obtain ⟨i, hi', hz0, hz1, hz2⟩ : ∃ i, P.info? e = some i ∧ i.zero = some z ∧ i.size = size ∧ i.bytes = bytes := by
    cases hq : P.info? e with
    | none => rw [hq] at hi; cases hi
    | some i => rw [hq] at hi; simp at hi; exact ⟨i, rfl, hi.1, hi.2.1, hi.2.2⟩
  have hflat := flatten_len hlen'
  obtain ⟨v', w', hrun, hown', hg, hat⟩ : ∃ v' w', (Builtin.append_ #[t, t] o.type #[v, .slice A rows'.length c]).run P W = .ok v' w' ∧ w'.ownsRow base e size v' (rows.length + rows'.length) (rows.flatten ++ rows'.flatten) ∧ W.grownBy w' v.ownBlock ∧
      (v'.ownBlock = v.ownBlock ∨ v'.ownBlock = some W.heap.size) := by
    cases A with
    | none =>
      have h0 : rows' = [] := by
        rcases Nat.eq_zero_or_pos rows'.length with h0 | h0
        · exact List.length_eq_zero_iff.1 h0
        · obtain ⟨b, off, e, _⟩ := hl h0
          cases e
      subst h0
      exact ⟨v, W, run_append_empty base t o.type e i size ht hi' v _ _ hown.2 c, by simpa using hown.2, World.grownBy.refl W _, .inl rfl⟩
    | some ad =>
      obtain ⟨v', w', hrun, h2, h3, _, h5⟩ := run_append_own_at (P := P) W base t o.type e i z size bytes ht hi' hz0 hz1 hz2 hzs hsz v rows.length rows.flatten hown.2 ad rows'.length c rows'.flatten hflat
        (fun q u hq => by
          obtain ⟨j, i, r, hj, hir, hqq⟩ := flatten_row hlen' q u hq
          obtain ⟨b, off, e, _, hc⟩ := hl (by have := (List.getElem?_eq_some_iff.1 hj).1; omega)
          injection e with e
          subst e
          rw [add_plain, hqq, ← Nat.add_assoc]
          exact hc j r hj i u hir)
        (fun u hu => by
          obtain ⟨r, hr, hur⟩ := List.mem_flatten.1 hu
          exact List.all_eq_true.1 (h1 r hr) u hur) (by unfold maxLen; omega) hlen hbase
      exact ⟨v', w', hrun, h2, h3, h5⟩
  have hend := h v' w' ⟨fun r hr => (List.mem_append.1 hr).elim (hown.1 r) (hlen' r), by rw [List.flatten_append, List.length_append]; exact hown'⟩ hg hat
  unfold Oper.wp execOp
  simp only [ho, resolve, invoke, builtin, Sem.run_bind, Sem.run_pure, Result.andThen_ok, List.map_toArray, List.map_cons, List.map_nil, hs, hx, hrun]
  exact hend
end
theorem ListAt.take {w : World} {B sz : Nat} {A : Option Addr} {rows : List (List Value)} (h : ListAt w B sz A rows) (n : Nat) : ListAt w B sz A (rows.take n) := fun hl => by
  obtain ⟨b, off, e, hb, hc⟩ := h (by rw [List.length_take] at hl; omega)
  refine ⟨b, off, e, hb, fun j cs hj i v hi => hc j cs ?_ i v hi⟩
  rw [List.getElem?_take] at hj
  split at hj
  · exact hj
  · cases hj
theorem ListAt.drop {w : World} {B sz b off off' : Nat} {rows : List (List Value)} (h : ListAt w B sz (some ⟨b, off, none⟩) rows) (n : Nat) (ho : off' = off + n * sz) : ListAt w B sz (some ⟨b, off', none⟩) (rows.drop n) := fun hl => by
  obtain ⟨b', off2, e, hb, hc⟩ := h (by rw [List.length_drop] at hl; omega)
  injection e with e
  injection e with e1 e2 _
  subst e1; subst e2
  refine ⟨b, off', rfl, hb, fun j cs hj i v hi => ?_⟩
  rw [List.getElem?_drop] at hj
  have := hc (n + j) cs hj i v hi
  rw [ho]
  rw [show off + n * sz + j * sz + i = off + (n + j) * sz + i by rw [Nat.add_mul]; omega]
  exact this
theorem ListAt.none {w : World} {B sz : Nat} (A : Option Addr) : ListAt w B sz A [] := fun h => absurd h (by simp)
theorem OwnL.listA {w : World} {base e sz n c : Nat} {A : Option Addr} {rows : List (List Value)} (h : OwnL w base e sz (.slice A n c) rows) : ListAt w w.heap.size sz A rows := by
  obtain ⟨A', c', hv, _, _, hl⟩ := h.listAt
  injection hv with h1 _ _
  rw [h1]
  exact hl
theorem own_one (n : Nat) (m c : Nat) : ∀ k, (Value.slice (some ⟨n, 0, none⟩) m c).ownBlock = some k → n ≤ k := fun _ hk => Nat.le_of_eq (Option.some.inj hk)
theorem own_ne {n g : Nat} (m c : Nat) (h : n ≠ g) : (Value.slice (some ⟨n, 0, none⟩) m c).ownBlock ≠ some g := fun e => h (Option.some.inj e)
end Go.Proofs.Ytklojcgbokmkhaa
