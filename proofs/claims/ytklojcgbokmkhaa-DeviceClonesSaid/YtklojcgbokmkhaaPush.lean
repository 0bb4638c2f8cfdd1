/- An append at a step of a region that draws its order. -/
import Derived.Test.YtklojcgbokmkhaaOwn
import Derived.Deep.AppendLies
import Derived.Deep.RegionHeld3
namespace Go.Proofs.Ytklojcgbokmkhaa
set_option linter.unusedVariables false
set_option linter.unusedSimpArgs false
set_option linter.unusedSectionVars false
open Go.RowKit
section
variable {P : Program}
theorem wp_push {o : Oper} {a : Act} {K : Act → World → Prop} {Q : Exit → Act → World → Prop} (s x : Operand) (t : TypeId)
    (ho : o.op = .call { callee := .builtin .append, args := #[s, x], argTypes := #[t, t] })
    (base e size bytes : Nat) (z : Value) (ht : P.underlying t = some (.slice e)) (hi : (P.info? e).map (fun i => (i.zero, i.size, i.bytes)) = some (some z, size, bytes)) (hzs : z.cells.size = size) (hsz : 0 < size)
    (W : World) (v : Value) (rows : List (List Value)) (row : List Value) (hrow : row.length = size) (hs : a.eval s = v) (hown : OwnL W base e size v rows) (gN : Nat) (hx : a.eval x = .slice (some ⟨gN, 0, none⟩) 1 1) (hb : Blk W gN e row.toArray) (h1 : row.all (·.oneCell') = true)
    (hlen : (rows.length + 1) * bytes ≤ 140737488355328) (h63 : rows.length + 1 ≤ 9223372036854775807) (hbase : base ≤ W.heap.size) (n : Nat) (hnl : rows.length = n)
    (h : ∀ g cap w', OwnL w' base e size (.slice (some ⟨g, 0, none⟩) (n + 1) cap) (rows ++ [row]) → W.grownBy w' v.ownBlock → (v.ownBlock = some g ∨ g = W.heap.size) → g < w'.heap.size → K (a.put o.dst (.slice (some ⟨g, 0, none⟩) (n + 1) cap)) w') :
    o.wp P a W K Q := by
  subst hnl
  obtain ⟨i, hi', hz0, hz1, hz2⟩ : ∃ i, P.info? e = some i ∧ i.zero = some z ∧ i.size = size ∧ i.bytes = bytes := by
    cases hq : P.info? e with
    | none => rw [hq] at hi; cases hi
    | some i => rw [hq] at hi; simp at hi; exact ⟨i, rfl, hi.1, hi.2.1, hi.2.2⟩
  refine wp_append_lies W s x t ho base e i z size bytes ht hi' hz0 hz1 hz2 hzs hsz v rows.length rows.flatten hs hown.2 ⟨gN, 0, none⟩ 1 1 row hx (by omega)
    (World.news_of_block (cs := row.toArray) hb) (fun u hu => List.all_eq_true.1 h1 u hu) (by omega) (by unfold maxLen; omega) hlen hbase _ rfl ?_
  intro g cap w' hown' hg hat hlt
  refine h g cap w' ⟨?_, ?_⟩ hg hat hlt
  · intro r hr'
    rcases List.mem_append.1 hr' with hr' | hr'
    · exact hown.1 r hr'
    · rw [List.mem_singleton.1 hr']; exact hrow
  · rw [List.flatten_append, List.length_append]
    simpa using hown'
theorem wpList_push2 {ops : Array Oper} {rest : List Oper} {o : Oper} {a : Act} {Q : Exit → Act → World → Prop} (hgd : o.guard = none) (s x : Operand) (t : TypeId)
    (ho : o.op = .call { callee := .builtin .append, args := #[s, x], argTypes := #[t, t] })
    (base e size bytes : Nat) (z : Value) (ht : P.underlying t = some (.slice e)) (hi : (P.info? e).map (fun i => (i.zero, i.size, i.bytes)) = some (some z, size, bytes)) (hzs : z.cells.size = size) (hsz : 0 < size)
    (W : World) (v : Value) (rows : List (List Value)) (row : List Value) (hrow : row.length = size) (hs : a.eval s = v) (hown : OwnL W base e size v rows) (gN : Nat) (hx : a.eval x = .slice (some ⟨gN, 0, none⟩) 1 1) (hb : Blk W gN e row.toArray) (h1 : row.all (·.oneCell') = true)
    (hlen : (rows.length + 1) * bytes ≤ 140737488355328) (h63 : rows.length + 1 ≤ 9223372036854775807) (hbase : base ≤ W.heap.size) (n : Nat) (hnl : rows.length = n)
    (h : ∀ g cap w', OwnL w' base e size (.slice (some ⟨g, 0, none⟩) (n + 1) cap) (rows ++ [row]) → W.grownBy w' v.ownBlock → (v.ownBlock = some g ∨ g = W.heap.size) → g < w'.heap.size → wpList P ops Q rest (a.put o.dst (.slice (some ⟨g, 0, none⟩) (n + 1) cap)) w') :
    wpList P ops Q (o :: rest) a W :=
  wpList_plain hgd fun _ hK => wp_push s x t ho base e size bytes z ht hi hzs hsz W v rows row hrow hs hown gN hx hb h1 hlen h63 hbase n hnl fun g cap w' h1 h2 h3 h4 => hK _ _ (h g cap w' h1 h2 h3 h4)
theorem step_push {ops : Array Oper} {o : Oper} {a : Act} {K : Act → World → Prop} {Q : Exit → Act → World → Prop} {E : Prop} (hgd : o.guard = none) (s x : Operand) (t : TypeId)
    (ho : o.op = .call { callee := .builtin .append, args := #[s, x], argTypes := #[t, t] })
    (base e size bytes : Nat) (z : Value) (ht : P.underlying t = some (.slice e)) (hi : (P.info? e).map (fun i => (i.zero, i.size, i.bytes)) = some (some z, size, bytes)) (hzs : z.cells.size = size) (hsz : 0 < size)
    (W : World) (v : Value) (rows : List (List Value)) (row : List Value) (hrow : row.length = size) (hs : a.eval s = v) (hown : OwnL W base e size v rows) (gN : Nat) (hx : a.eval x = .slice (some ⟨gN, 0, none⟩) 1 1) (hb : Blk W gN e row.toArray) (h1 : row.all (·.oneCell') = true)
    (hlen : (rows.length + 1) * bytes ≤ 140737488355328) (h63 : rows.length + 1 ≤ 9223372036854775807) (hbase : base ≤ W.heap.size) (n : Nat) (hnl : rows.length = n)
    (h : ∀ g cap w', OwnL w' base e size (.slice (some ⟨g, 0, none⟩) (n + 1) cap) (rows ++ [row]) → W.grownBy w' v.ownBlock → (v.ownBlock = some g ∨ g = W.heap.size) → g < w'.heap.size → K (a.put o.dst (.slice (some ⟨g, 0, none⟩) (n + 1) cap)) w') :
    if Region.wanted o (yielded ops a.tmps) = true then Oper.wp P o a W K Q else E := by
  have hw : Region.wanted o (yielded ops a.tmps) = true := by simp [Region.wanted, hgd]
  rw [if_pos hw]
  exact wp_push s x t ho base e size bytes z ht hi hzs hsz W v rows row hrow hs hown gN hx hb h1 hlen h63 hbase n hnl h
end
theorem OwnL.own {w w' : World} {base e sz : Nat} {v : Value} {rows : List (List Value)} {row : Option Nat} (h : OwnL w base e sz v rows) (hg : w.grownBy w' row) (hne : ∀ g, v.ownBlock = some g → row ≠ some g) : OwnL w' base e sz v rows := by
  refine ⟨h.1, h.2.1, ?_⟩
  rcases h.2.2 with h0 | ⟨g, cap, cur, hv, hb, hh, hr⟩
  · exact .inl h0
  · exact .inr ⟨g, cap, cur, hv, hb, Blk.own (t := e) (cs := cur) hh hg (hne g (by rw [hv]; rfl)), hr⟩
theorem OwnL.row_ge {w : World} {base e sz : Nat} {v : Value} {rows : List (List Value)} (h : OwnL w base e sz v rows) : ∀ k, v.ownBlock = some k → base ≤ k := fun _ hk => (h.own_ge hk).1
end Go.Proofs.Ytklojcgbokmkhaa
