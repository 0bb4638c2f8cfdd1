/- A slice of the call's own, cut to its first elements; 'clear' on the others. -/
import Derived.Test.YtklojcgbokmkhaaOwn
import Derived.Laws.CopyRow
namespace Go.Proofs.Ytklojcgbokmkhaa
set_option linter.unusedVariables false
set_option linter.unusedSimpArgs false
set_option linter.unusedSectionVars false
open Go.RowKit
theorem flatten_take {rows : List (List Value)} {sz : Nat} (h : ∀ r ∈ rows, r.length = sz) : ∀ i, (rows.take i).flatten = rows.flatten.take (i * sz) := by
  induction rows with
  | nil => intro i; simp
  | cons x rows ih =>
    intro i
    have hx := h x (by simp)
    cases i with
    | zero => simp
    | succ i =>
      have hs : (i + 1) * sz = x.length + i * sz := by rw [hx, Nat.succ_mul]; omega
      rw [List.take_succ_cons, List.flatten_cons, List.flatten_cons, ih (fun y hy => h y (List.mem_cons_of_mem _ hy)), hs, List.take_append, List.take_of_length_le (l := x) (by omega), Nat.add_sub_cancel_left]
theorem OwnL.len {w : World} {base e sz g n cap : Nat} {rows : List (List Value)} (h : OwnL w base e sz (.slice (some ⟨g, 0, none⟩) n cap) rows) : rows.length = n ∧ n ≤ cap ∧ cap ≤ 9223372036854775807 := by
  rcases h.2.2 with ⟨h0, _⟩ | ⟨g', cap', cur, hv, _, _, hn, hm, _⟩
  · cases h0
  · injection hv with _ h1 h2
    unfold maxLen at hm
    exact ⟨h1.symm, by rw [h1, h2]; exact hn, by rw [h2]; simpa using hm⟩
theorem OwnL.block {w : World} {base e sz g n cap : Nat} {rows : List (List Value)} (h : OwnL w base e sz (.slice (some ⟨g, 0, none⟩) n cap) rows) :
    ∃ cur, base ≤ g ∧ w.heap[g]? = some (.cells cur e (0, 0)) ∧ cur.size = cap * sz ∧ cur.toList.take (n * sz) = rows.flatten := by
  have hlen := h.len.1
  rcases h.2.2 with ⟨h0, _⟩ | ⟨g', cap', cur, hv, hb, hh, hn, hm, hs, ht⟩
  · cases h0
  · injection hv with h0 h1 h2
    injection h0 with h0
    injection h0 with h0 _ _
    subst h0
    rw [hlen] at ht
    exact ⟨cur, hb, hh, by rw [hs, h2], ht⟩
theorem OwnL.shrink {w : World} {base e sz g n cap : Nat} {rows : List (List Value)} (h : OwnL w base e sz (.slice (some ⟨g, 0, none⟩) n cap) rows) {i : Nat} (hi : i ≤ n) :
    OwnL w base e sz (.slice (some ⟨g, 0, none⟩) i cap) (rows.take i) := by
  obtain ⟨hl, hc, hm⟩ := h.len
  obtain ⟨cur, hb, hh, hs, ht⟩ := h.block
  have hlt : (rows.take i).length = i := by rw [List.length_take]; omega
  have hsub : ∀ r ∈ rows.take i, r.length = sz := fun r hr => h.1 r (List.mem_of_mem_take hr)
  refine ⟨hsub, by rw [flatten_len hsub], .inr ⟨g, cap, cur, by rw [hlt], hb, hh, by omega, by unfold maxLen; omega, hs, ?_⟩⟩
  rw [hlt, flatten_take h.1, ← ht, List.take_take]
  congr 1
  exact (Nat.min_eq_left (Nat.mul_le_mul_right sz hi)).symm
theorem zeroCells_len (z : Array Value) (n : Nat) : (Builtin.zeroCells z n).toList.length = n * z.size := by simp [Builtin.zeroCells]
theorem zeroCells_one (z : Array Value) (n : Nat) (h1 : ∀ v ∈ z, v.oneCell' = true) (hz : 0 < z.size) : ∀ v ∈ (Builtin.zeroCells z n).toList, v.oneCell' = true := by
  intro v hv
  simp [Builtin.zeroCells] at hv
  obtain ⟨i, _, rfl⟩ := hv
  have hi : i % z.size < z.size := Nat.mod_lt _ hz
  rw [getElem!_pos z _ hi]
  exact h1 _ (Array.getElem_mem hi)
section
variable {P : Program}
theorem wpList_clear_own {W : World} {ops : Array Oper} {rest : List Oper} {o : Oper} {a : Act} {Q : Exit → Act → World → Prop} (hgd : o.guard = none) (x : Operand) (t : TypeId)
    (ho : o.op = .call { callee := .builtin .clear, args := #[x], argTypes := #[t] })
    (base e size : Nat) (z : Value) (ht : P.underlying t = some (.slice e)) (hz : ∀ w, (zeroValue e).run P w = .ok z w) (hzs : z.cells.size = size) (hz1 : ∀ v ∈ z.cells, v.oneCell' = true) (hsz : 0 < size)
    (g n cap i : Nat) (rows : List (List Value)) (hown : OwnL W base e size (.slice (some ⟨g, 0, none⟩) n cap) rows) (hi : i < n) (m c : Nat) (hm : m = n - i) (hx : a.eval x = .slice (some ⟨g, i * size, none⟩) m c)
    (h : ∀ w', OwnL w' base e size (.slice (some ⟨g, 0, none⟩) i cap) (rows.take i) → Turned (fun b => b = g) W w' → wpList P ops Q rest (a.put o.dst (.tuple #[])) w') :
    wpList P ops Q (o :: rest) a W := by
  subst hm
  obtain ⟨hl, hc, hmx⟩ := hown.len
  obtain ⟨cur, hb, hh, hs, htk⟩ := hown.block
  have hzl := zeroCells_len z.cells (n - i)
  rw [hzs] at hzl
  have hle : i * size + (n - i) * size = n * size := by rw [← Nat.add_mul]; congr 1; omega
  have hle2 : n * size ≤ cap * size := Nat.mul_le_mul_right _ hc
  have hst := run_storeCells_at (P := P) g (i * size) e (Builtin.zeroCells z.cells (n - i)).toList 0 cur W hh (by rw [hzl, hs]; omega) (zeroCells_one _ _ hz1 (by omega))
  simp only [Nat.add_zero] at hst
  have hrun : (Builtin.clear_ #[t] o.type #[.slice (some ⟨g, i * size, none⟩) (n - i) c]).run P W = .ok (.tuple #[]) (W.setRow g (cur.toList.take (i * size) ++ (Builtin.zeroCells z.cells (n - i)).toList ++ cur.toList.drop (i * size + (Builtin.zeroCells z.cells (n - i)).toList.length)).toArray) := by
    obtain ⟨k, hk⟩ : ∃ k, n - i = k + 1 := ⟨n - i - 1, by omega⟩
    rw [hk] at hst ⊢
    simp [Builtin.clear_, run_underlying ht, hz, hst]
  refine wpList_plain hgd fun K hK => ?_
  unfold Oper.wp execOp
  simp only [ho, resolve, invoke, builtin, Sem.run_bind, Sem.run_pure, Result.andThen_ok, List.map_toArray, List.map_cons, List.map_nil, hx, hrun]
  refine hK _ _ (h _ ?_ ((Turned.refl (fun b => b = g) W).setRow (fun _ => rfl) _))
  have hlt : (rows.take i).length = i := by rw [List.length_take]; omega
  have hsub : ∀ r ∈ rows.take i, r.length = size := fun r hr => hown.1 r (List.mem_of_mem_take hr)
  have hcl : cur.toList.length = cap * size := by rw [Array.length_toList, hs]
  refine ⟨hsub, by rw [flatten_len hsub], .inr ⟨g, cap, _, by rw [hlt], hb, setRow_heap W g cur _ e (0, 0) hh, by omega, by unfold maxLen; omega, ?_, ?_⟩⟩
  · simp only [List.size_toArray, List.length_append, List.length_take, List.length_drop, hzl, hcl]
    omega
  · rw [hlt, flatten_take hown.1, ← htk, List.take_take, Nat.min_eq_left (Nat.mul_le_mul_right size (Nat.le_of_lt hi)), List.append_assoc, List.take_append, List.take_of_length_le (by rw [List.length_take]; omega)]
    have : (cur.toList.take (i * size)).length = i * size := by rw [List.length_take, hcl]; omega
    rw [this, Nat.sub_self, List.take_zero, List.append_nil]
end
end Go.Proofs.Ytklojcgbokmkhaa
