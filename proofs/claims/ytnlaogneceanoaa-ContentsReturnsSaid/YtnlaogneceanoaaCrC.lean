/- Plain laws of chapter 5: the sequence of a list decides its joined form, its normal form and its indices. 'append(v, x...)': a whole list appended to a slice of the call's own. Chapter 5's contracts once more, each list under a name of its own. Chapter 7: numbers of tracks; the table's tracks, slots. Chapter 7: labels in memory; Few, Equal. Regions that draw their order, whose last store turns a cell that the region has loaded: loads are taken first under a fact that need not hold behind the operations A. Regions that draw their order, once more: behind every operation that is not in A the fact S still holds if it held ahead of it. Loads are taken first under S; what needs no fact may be taken first at any time. Chapter 7: the conditions of valid labels. Chapter 7: the conditions on the extents. -/
import Derived.Maps.AppendAt
import Derived.OwnWalk
import Derived.Deep.DeepCutAuto
import Derived.Deep.CutBlock
import Derived.OrdersHeld
import Derived.Deep.RegionHeld3
import Derived.Deep.DrawnRows
import Derived.Test.YtnlaogneceanoaaCrA
import Derived.Test.YtnlaogneceanoaaCrB
namespace Go.Proofs.Ytnlaogneceanoaa
set_option linter.unusedVariables false
set_option linter.unusedSimpArgs false
set_option linter.unusedSectionVars false
open Go.RowKit
theorem last_cases (acc : List (Nat × Nat)) : acc = [] ∨ ∃ i x, acc = i ++ [x] := by
  rcases List.eq_nil_or_concat acc with h | ⟨i, x, h⟩
  · exact .inl h
  · exact .inr ⟨i, x, by rw [h, List.concat_eq_append]⟩
theorem last_getD (i : List (Nat × Nat)) (x : Nat × Nat) : (i ++ [x]).getD ((i ++ [x]).length - 1) (0, 0) = x := by simp [List.getD]
theorem last_set (i : List (Nat × Nat)) (x y : Nat × Nat) : (i ++ [x]).set ((i ++ [x]).length - 1) y = i ++ [y] := by
  rw [List.set_append_right _ _ (by simp)]
  simp
def stepT (acc : List (Nat × Nat)) (t : Nat) : List (Nat × Nat) := stepJ acc (t, 1)
theorem stepT_nil (t : Nat) : stepT [] t = [(t, 1)] := by
  unfold stepT stepJ
  rw [if_neg (by simp), if_neg (fun h => h.1 rfl)]
  rfl
theorem stepJ_snoc (i : List (Nat × Nat)) (x r : Nat × Nat) (hr : r.2 ≠ 0) : stepJ (i ++ [x]) r = if x.1 + x.2 = r.1 then i ++ [(x.1, x.2 + r.2)] else i ++ [x] ++ [r] := by
  unfold stepJ
  rw [if_neg hr, last_getD, last_set]
  by_cases h : x.1 + x.2 = r.1
  · rw [if_pos ⟨by simp, h⟩, if_pos h]
  · rw [if_neg (fun h' => h h'.2), if_neg h]
theorem stepT_snoc (i : List (Nat × Nat)) (x : Nat × Nat) (t : Nat) : stepT (i ++ [x]) t = if x.1 + x.2 = t then i ++ [(x.1, x.2 + 1)] else i ++ [x] ++ [(t, 1)] := by
  unfold stepT
  rw [stepJ_snoc _ _ _ (by simp)]
def joinT (s : List Nat) : List (Nat × Nat) := s.foldl stepT []
def seqN (r : Nat × Nat) : List Nat := (List.range r.2).map fun k => r.1 + k
theorem seqN_succ (lo n : Nat) : seqN (lo, n + 1) = seqN (lo, n) ++ [lo + n] := by simp [seqN, List.range_succ]
/-- The sequence of a list. -/
def seqS (l : List (Int × Int)) : List Nat := l.flatMap fun r => seqN (clipS r)
theorem seqS_cons (r : Int × Int) (l : List (Int × Int)) : seqS (r :: l) = seqN (clipS r) ++ seqS l := rfl
theorem seqN_len (r : Nat × Nat) : (seqN r).length = r.2 := by simp [seqN]
theorem seqS_len (l : List (Int × Int)) : (seqS l).length = sizeS l := by
  induction l with
  | nil => rfl
  | cons r l ih => rw [seqS_cons, List.length_append, ih, seqN_len, sizeS_cons]
theorem mem_seqN (r : Nat × Nat) (t : Nat) : t ∈ seqN r ↔ r.1 ≤ t ∧ t < r.1 + r.2 := by
  simp only [seqN, List.mem_map, List.mem_range]
  constructor
  · rintro ⟨k, hk, rfl⟩; omega
  · rintro ⟨h1, h2⟩; exact ⟨t - r.1, by omega, by omega⟩
theorem mem_seqS (l : List (Int × Int)) (t : Nat) : t ∈ seqS l ↔ memS l t = true := by
  simp only [seqS, List.mem_flatMap, memS, List.any_eq_true, mem_seqN, inS, decide_eq_true_eq]
theorem seqS_lt (l : List (Int × Int)) : ∀ t ∈ seqS l, t < 128 := by
  intro t ht
  simp only [seqS, List.mem_flatMap, mem_seqN] at ht
  obtain ⟨r, _, h1, h2⟩ := ht
  have := clipS_le r
  omega
theorem clipS_nat (a b : Nat) (h : a + b ≤ 128) (hb : 0 < b) : clipS ((a : Int), (b : Int)) = (a, b) := by
  unfold clipS
  simp only []
  rw [if_neg (by omega), if_neg (by omega)]
  split
  · simp
  · exact Prod.ext (by simp) (by simp; omega)
theorem seqN_clip (a b : Nat) (h : a + b ≤ 128) : seqN (clipS ((a : Int), (b : Int))) = seqN (a, b) := by
  rcases Nat.eq_zero_or_pos b with rfl | hb
  · have : (clipS ((a : Int), ((0 : Nat) : Int))).2 = 0 := by unfold clipS; rw [if_pos (by simp)]
    unfold seqN
    rw [this]
    rfl
  · rw [clipS_nat a b h hb]
def seqL (l : List (Nat × Nat)) : List Nat := l.flatMap seqN
theorem seqS_ints (l : List (Nat × Nat)) (h : ∀ r ∈ l, r.1 + r.2 ≤ 128) : seqS (ints l) = seqL l := by
  induction l with
  | nil => rfl
  | cons r l ih =>
    show seqS (((r.1 : Int), (r.2 : Int)) :: ints l) = _
    rw [seqS_cons, seqN_clip _ _ (h r (by simp)), ih (fun x hx => h x (List.mem_cons_of_mem _ hx))]
    rfl
theorem seqL_append (a b : List (Nat × Nat)) : seqL (a ++ b) = seqL a ++ seqL b := by simp [seqL]
theorem seqL_one (r : Nat × Nat) : seqL [r] = seqN r := by simp [seqL]
theorem seqL_stepT (acc : List (Nat × Nat)) (t : Nat) : seqL (stepT acc t) = seqL acc ++ [t] := by
  rcases last_cases acc with rfl | ⟨i, x, rfl⟩
  · rw [stepT_nil]; simp [seqL, seqN]
  · rw [stepT_snoc]
    split
    · rename_i h
      rw [seqL_append, seqL_append, seqL_one, seqL_one, seqN_succ, ← List.append_assoc, h]
    · rw [seqL_append]
      simp [seqL, seqN]
theorem seqL_foldT (s : List Nat) : ∀ acc, seqL (s.foldl stepT acc) = seqL acc ++ s := by
  induction s with
  | nil => intro acc; simp
  | cons t s ih => intro acc; rw [List.foldl_cons, ih, seqL_stepT, List.append_assoc]; rfl
theorem seqL_joinT (s : List Nat) : seqL (joinT s) = s := by unfold joinT; rw [seqL_foldT]; rfl
theorem normTo_end (S : Nat → Bool) (k : Nat) : normTo S k = [] ∧ (0 < k → S (k - 1) = false) ∨ ∃ i x, normTo S k = i ++ [x] ∧ (x.1 + x.2 = k ↔ 0 < k ∧ S (k - 1) = true) := by
  induction k with
  | zero => exact .inl ⟨rfl, fun h => absurd h (by omega)⟩
  | succ k ih =>
    rw [normTo, Nat.add_sub_cancel]
    cases hS : S k with
    | false =>
      rw [stepN, if_pos hS]
      rcases ih with ⟨h, _⟩ | ⟨i, x, h, _⟩
      · exact .inl ⟨h, fun _ => rfl⟩
      · refine .inr ⟨i, x, h, ?_⟩
        have := normTo_bd S k x (by rw [h]; simp)
        constructor
        · intro h; omega
        · rintro ⟨_, h⟩; cases h
    | true =>
      rw [stepN, if_neg (by simp [hS])]
      by_cases hp : 0 < k ∧ S (k - 1) = true
      · rw [if_pos hp]
        rcases ih with ⟨h, h'⟩ | ⟨i, x, h, h'⟩
        · have := h' hp.1; rw [hp.2] at this; cases this
        · refine .inr ⟨i, (x.1, x.2 + 1), ?_, ?_⟩
          · rw [h, bump, last_getD, last_set]
          · have := h'.2 hp
            simp only []
            constructor
            · intro _; exact ⟨by omega, by first | rfl | trivial⟩
            · intro _; omega
      · rw [if_neg hp]
        exact .inr ⟨_, _, rfl, ⟨fun _ => ⟨by omega, by first | rfl | trivial⟩, fun _ => by simp⟩⟩
theorem normTo_joinT (S : Nat → Bool) (k : Nat) : normTo S k = joinT ((List.range k).filter S) := by
  induction k with
  | zero => rfl
  | succ k ih =>
    rw [normTo, List.range_succ, List.filter_append]
    unfold joinT at ih ⊢
    rw [List.foldl_append, ← ih]
    cases hS : S k with
    | false =>
      rw [stepN, if_pos hS, List.filter_cons_of_neg (by simp [hS])]
      rfl
    | true =>
      rw [stepN, if_neg (by simp [hS]), List.filter_cons_of_pos hS]
      show _ = stepT (normTo S k) k
      rcases normTo_end S k with ⟨h, h'⟩ | ⟨i, x, h, h'⟩
      · rw [if_neg (by rintro ⟨a, b⟩; rw [h' a] at b; cases b), h, stepT_nil]; rfl
      · by_cases hp : 0 < k ∧ S (k - 1) = true
        · rw [if_pos hp, h, stepT_snoc, if_pos (h'.2 hp), bump, last_getD, last_set]
        · rw [if_neg hp, h, stepT_snoc, if_neg (fun e => hp (h'.1 e))]
theorem normS_bd (S : Nat → Bool) : ∀ r ∈ normS S, r.1 + r.2 ≤ 128 := normTo_bd S 128
theorem normS_len (S : Nat → Bool) : (normS S).length ≤ 128 := normTo_len S 128
theorem seqS_normS (S : Nat → Bool) : seqS (ints (normS S)) = (List.range 128).filter S := by
  rw [seqS_ints _ (normS_bd S)]
  unfold normS
  rw [normTo_joinT, seqL_joinT]
theorem normS_congr {S T : Nat → Bool} (h : ∀ i, i < 128 → S i = T i) : normS S = normS T := normTo_congr 128 h
def pickT (s : List Nat) (i : Nat) : Int × Bool := if i < s.length then ((s.getD i 0 : Nat), true) else (0, false)
theorem atS_pick (l : List (Int × Int)) : ∀ i : Nat, atS l i = pickT (seqS l) i := by
  induction l with
  | nil => intro i; rfl
  | cons r l ih =>
    intro i
    rw [atS, seqS_cons]
    unfold pickT
    have hln := seqN_len (clipS r)
    by_cases h : (i : Int) < ((clipS r).2 : Int)
    · have h' : i < (clipS r).2 := by omega
      rw [if_pos h, if_pos (by rw [List.length_append]; omega)]
      refine Prod.ext ?_ rfl
      simp only [List.getD]
      rw [List.getElem?_append_left (by omega)]
      simp [seqN, h']
    · rw [if_neg h, show (i : Int) - ((clipS r).2 : Int) = ((i - (clipS r).2 : Nat) : Int) from by omega, ih]
      unfold pickT
      rw [List.length_append, hln]
      by_cases h2 : i - (clipS r).2 < (seqS l).length
      · rw [if_pos h2, if_pos (by omega)]
        simp only [List.getD]
        rw [List.getElem?_append_right (by omega), hln]
      · rw [if_neg h2, if_neg (by omega)]
theorem count_cons (x : Nat) (s : List Nat) : ∀ n, ((List.range n).filter fun i => decide (i ∈ x :: s)).length = ((List.range n).filter fun i => decide (i ∈ s)).length + if x < n ∧ x ∉ s then 1 else 0 := by
  intro n
  induction n with
  | zero => simp
  | succ n ih =>
    rw [List.range_succ, List.filter_append, List.filter_append, List.length_append, List.length_append, ih]
    by_cases hx : x = n
    · subst hx
      by_cases hs : x ∈ s
      · simp [List.filter_cons, hs]
      · simp [List.filter_cons, hs]
    · have e : decide (n ∈ x :: s) = decide (n ∈ s) := by
        rw [decide_eq_decide, List.mem_cons]
        exact ⟨fun h => h.resolve_left (fun e => hx e.symm), Or.inr⟩
      have e2 : (x < n + 1 ∧ x ∉ s) = (x < n ∧ x ∉ s) := by
        rw [eq_iff_iff]
        exact ⟨fun h => ⟨by omega, h.2⟩, fun h => ⟨by omega, h.2⟩⟩
      have e3 : ([n].filter fun i => decide (i ∈ x :: s)) = [n].filter fun i => decide (i ∈ s) := by rw [List.filter_cons, List.filter_cons, e]; rfl
      simp only [e2]
      rw [e3]
      omega
theorem count_le (s : List Nat) (n : Nat) : ((List.range n).filter fun i => decide (i ∈ s)).length ≤ s.length := by
  induction s with
  | nil => simp
  | cons x s ih => rw [count_cons, List.length_cons]; split <;> omega
theorem count_nodup (s : List Nat) (n : Nat) (h : ∀ x ∈ s, x < n) : ((List.range n).filter fun i => decide (i ∈ s)).length = s.length ↔ s.Nodup := by
  induction s with
  | nil => simp
  | cons x s ih =>
    have ih' := ih (fun y hy => h y (List.mem_cons_of_mem _ hy))
    have hx := h x (by simp)
    have hle := count_le s n
    rw [count_cons, List.length_cons, List.nodup_cons]
    by_cases hs : x ∈ s
    · rw [if_neg (fun h => h.2 hs)]
      constructor
      · intro e; omega
      · intro e; exact absurd hs e.1
    · rw [if_pos ⟨hx, hs⟩]
      constructor
      · intro e; exact ⟨hs, ih'.1 (by omega)⟩
      · intro e; have := ih'.2 e.2; omega
theorem sizeS_normS (S : Nat → Bool) : sizeS (ints (normS S)) = ((List.range 128).filter S).length := by rw [← seqS_len, seqS_normS]
theorem disjS (l : List (Int × Int)) : sizeS l = sizeS (ints (normS (memS l))) ↔ (seqS l).Nodup := by
  rw [sizeS_normS, ← count_nodup (seqS l) 128 (seqS_lt l), seqS_len]
  have : (fun i => decide (i ∈ seqS l)) = memS l := by
    funext i
    rw [Bool.eq_iff_iff, decide_eq_true_eq, mem_seqS]
  rw [this]
  exact eq_comm
end Go.Proofs.Ytnlaogneceanoaa
namespace Go.Proofs.Ytnlaogneceanoaa
set_option linter.unusedVariables false
set_option linter.unusedSimpArgs false
set_option linter.unusedSectionVars false
open Go.RowKit
theorem flatten_row {rows : List (List Value)} {sz : Nat} (h : ∀ r ∈ rows, r.length = sz) : ∀ (q : Nat) (u : Value), rows.flatten[q]? = some u → ∃ j i r, rows[j]? = some r ∧ r[i]? = some u ∧ q = j * sz + i := by
  induction rows with
  | nil => intro q u hq; simp at hq
  | cons x rows ih =>
    intro q u hq
    have hx := h x (by simp)
    rw [List.flatten_cons] at hq
    rcases Nat.lt_or_ge q x.length with hlt | hge
    · rw [List.getElem?_append_left hlt] at hq
      exact ⟨0, q, x, rfl, hq, by omega⟩
    · rw [List.getElem?_append_right hge] at hq
      obtain ⟨j, i, r, h1, h2, h3⟩ := ih (fun y hy => h y (List.mem_cons_of_mem _ hy)) _ u hq
      exact ⟨j + 1, i, r, h1, h2, by rw [Nat.succ_mul]; omega⟩
section
variable {P : Program}
theorem run_append_empty {w : World} (base : Nat) (t ty e : TypeId) (i : TypeInfo) (size : Nat) (ht : P.underlying t = some (.slice e)) (hi : P.info? e = some i)
    (v : Value) (n : Nat) (xs : List Value) (hown : w.ownsRow base e size v n xs) (c : Nat) : (Builtin.append_ #[t, t] ty #[v, .slice none 0 c]).run P w = .ok v w := by
  rcases hown.2 with ⟨rfl, rfl⟩ | ⟨g, cap, cur, rfl, _, _, hnc, _⟩
  · simp [Builtin.append_, run_underlying ht, sizeOf, typeInfo, hi, Builtin.lenOf, Builtin.firstCells]
  · simp [Builtin.append_, run_underlying ht, sizeOf, typeInfo, hi, Builtin.lenOf, Builtin.firstCells, hnc, storeCells]
theorem wpList_pushAll {W : World} {ops : Array Oper} {rest : List Oper} {o : Oper} {a : Act} {Q : Exit → Act → World → Prop} (hwt : Region.wanted o (yielded ops a.tmps) = true) (s x : Operand) (t : TypeId)
    (ho : o.op = .call { callee := .builtin .append, args := #[s, x], argTypes := #[t, t] })
    (base e size bytes : Nat) (z : Value) (ht : P.underlying t = some (.slice e)) (hi : (P.info? e).map (fun i => (i.zero, i.size, i.bytes)) = some (some z, size, bytes)) (hzs : z.cells.size = size) (hsz : 0 < size)
    (v : Value) (rows rows' : List (List Value)) (hs : a.eval s = v) (hown : OwnL W base e size v rows) (A : Option Addr) (m c : Nat) (hx : a.eval x = .slice A m c) (hm : m = rows'.length) (hlen' : ∀ r ∈ rows', r.length = size) (hl : ListAt W W.heap.size size A rows') (h1 : ∀ r ∈ rows', r.all (·.oneCell') = true)
    (hlen : (rows.length + m) * bytes ≤ 140737488355328) (h63 : rows.length + m ≤ 9223372036854775807) (hbase : base ≤ W.heap.size)
    (h : ∀ v' w', OwnL w' base e size v' (rows ++ rows') → W.grownBy w' v.ownBlock → (v'.ownBlock = v.ownBlock ∨ v'.ownBlock = some W.heap.size) → wpList P ops Q rest (a.put o.dst v') w') :
    wpList P ops Q (o :: rest) a W := by
  subst hm
  obtain ⟨i, hi', hz0, hz1, hz2⟩ : ∃ i, P.info? e = some i ∧ i.zero = some z ∧ i.size = size ∧ i.bytes = bytes := by
    cases hq : P.info? e with
    | none => rw [hq] at hi; cases hi
    | some i => rw [hq] at hi; simp at hi; exact ⟨i, rfl, hi.1, hi.2.1, hi.2.2⟩
  have hflat := flatten_len hlen'
  obtain ⟨v', w', hrun, hown', hg, hat⟩ : ∃ v' w', (Builtin.append_ #[t, t] o.type #[v, .slice A rows'.length c]).run P W = .ok v' w' ∧ w'.ownsRow base e size v' (rows.length + rows'.length) (rows.flatten ++ rows'.flatten) ∧ W.grownBy w' v.ownBlock ∧
      (v'.ownBlock = v.ownBlock ∨ v'.ownBlock = some W.heap.size) := by
    cases A with
    | none =>
      have h0 : rows' = [] := by
        rcases Nat.eq_zero_or_pos rows'.length with h0 | h0
        · exact List.length_eq_zero_iff.1 h0
        · obtain ⟨b, off, e, _⟩ := hl h0
          cases e
      subst h0
      exact ⟨v, W, run_append_empty base t o.type e i size ht hi' v _ _ hown.2 c, by simpa using hown.2, World.grownBy.refl W _, .inl rfl⟩
    | some ad =>
      obtain ⟨v', w', hrun, h2, h3, _, h5⟩ := run_append_own_at (P := P) W base t o.type e i z size bytes ht hi' hz0 hz1 hz2 hzs hsz v rows.length rows.flatten hown.2 ad rows'.length c rows'.flatten hflat
        (fun q u hq => by
          obtain ⟨j, i, r, hj, hir, hqq⟩ := flatten_row hlen' q u hq
          obtain ⟨b, off, e, _, hc⟩ := hl (by have := (List.getElem?_eq_some_iff.1 hj).1; omega)
          injection e with e
          subst e
          rw [add_plain, hqq, ← Nat.add_assoc]
          exact hc j r hj i u hir)
        (fun u hu => by
          obtain ⟨r, hr, hur⟩ := List.mem_flatten.1 hu
          exact List.all_eq_true.1 (h1 r hr) u hur) (by unfold maxLen; omega) hlen hbase
      exact ⟨v', w', hrun, h2, h3, h5⟩
  have hK : ∀ K : Act → World → Prop, K (a.put o.dst v') w' → o.wp P a W K Q := by
    intro K hk
    unfold Oper.wp execOp
    simp only [ho, resolve, invoke, builtin, Sem.run_bind, Sem.run_pure, Result.andThen_ok, List.map_toArray, List.map_cons, List.map_nil, hs, hx, hrun]
    exact hk
  have hend := h v' w' ⟨fun r hr => (List.mem_append.1 hr).elim (hown.1 r) (hlen' r), by rw [List.flatten_append, List.length_append]; exact hown'⟩ hg hat
  exact wpList_step fun K hk => by rw [if_pos hwt]; exact hK K (hk _ _ hend)
end
end Go.Proofs.Ytnlaogneceanoaa
namespace Go.Proofs.Ytnlaogneceanoaa
set_option linter.unusedVariables false
set_option linter.unusedSimpArgs false
set_option linter.unusedSectionVars false
open Go.RowKit
theorem back {w w' : World} {base : Nat} {v : Value} {l : List (Nat × Nat)} {k : List (Int × Int)} (hk : ints l = k) (hb : ∀ r ∈ l, r.1 + r.2 ≤ 128) (hown : OwnL w' base 58 2 v (l.map rowN)) (hg : Grew w w') :
    ∃ A c, (Ending.returned v) = .returned (.slice A k.length c) ∧ RunsAt w' w'.heap.size A k ∧ Grew w w' := by
  subst hk
  obtain ⟨A', c', hv, hr'⟩ := own_runs hown (fun r hr => Nat.le_trans (hb r hr) (by omega))
  exact ⟨A', c', by rw [hv], hr', hg⟩
section
variable {A : Option Addr} {c n : Nat} {l : List (Int × Int)} {w : World}
theorem disjoint_val (hn : n = l.length) (hl : l.length ≤ 1000000) (hr : RunsAt w w.heap.size A l) (b : Bool) (h : decide (seqS l).Nodup = b) :
    Calls Try.prog 11 #[.slice A n c] w fun e w' => e = .returned (.bool b) ∧ Grew w w' := by
  subst hn; subst h
  refine (disjoint_any A c l w w.heap.size (Nat.le_refl _) hl hr).mono ?_
  rintro e w1 ⟨rfl, g1⟩
  refine ⟨ret_bool ?_, g1⟩
  have := disjS l
  rw [Bool.eq_iff_iff, beq_iff_eq, decide_eq_true_eq, ← this]
  omega
end
section
variable {A1 A2 : Option Addr} {c1 c2 n1 n2 : Nat} {l1 l2 : List (Int × Int)} {w : World}
theorem minus_val (hn1 : n1 = l1.length) (hn2 : n2 = l2.length) (hl1 : l1.length ≤ 1000000) (hl2 : l2.length ≤ 1000000) (hr1 : RunsAt w w.heap.size A1 l1) (hr2 : RunsAt w w.heap.size A2 l2) (k : List (Int × Int)) (hk : ints (normS fun i => memS l1 i && !memS l2 i) = k) :
    Calls Try.prog 92 #[.slice A1 n1 c1, .slice A2 n2 c2] w fun e w' => ∃ A c, e = .returned (.slice A k.length c) ∧ RunsAt w' w'.heap.size A k ∧ Grew w w' := by
  subst hn1; subst hn2
  refine (minus_any A1 A2 c1 c2 l1 l2 w w.heap.size (Nat.le_refl _) hl1 hl2 hr1 hr2).mono ?_
  rintro e w1 ⟨v, rfl, hown, g1⟩
  exact back hk (normS_bd _) hown g1
end
end Go.Proofs.Ytnlaogneceanoaa
namespace Go.Proofs.Ytnlaogneceanoaa
set_option linter.unusedVariables false
set_option linter.unusedSimpArgs false
set_option linter.unusedSectionVars false
open Go.RowKit
def okT (t : Int) : Bool := decide (4 ≤ t ∧ t ≤ 128)
def ttS (t : Int) : Int := if okT t = true then (t + 3) / 4 else 0
def slotsS (t : Int) : Int := max 0 (ttS t - 1)
theorem okT_true {t : Int} (h : okT t = true) : 4 ≤ t ∧ t ≤ 128 := by simpa [okT] using h
theorem ttS_bd (t : Int) : 0 ≤ ttS t ∧ ttS t ≤ 32 := by
  unfold ttS
  cases h : okT t with
  | true => have := okT_true h; rw [if_pos rfl]; omega
  | false => rw [if_neg (by simp)]; omega
set_option maxRecDepth 100000 in
theorem tracksOK_any (t : Int) (w : World) : Calls Try.prog 71 #[.int .i64 t] w fun e w' => e = .returned (.bool (okT t)) ∧ w = w' := by
  have HO := Lib.hid (show okT t = decide (4 ≤ t ∧ t ≤ 128) from rfl)
  by_cases h1 : 4 ≤ t
  · by_cases h2 : t ≤ 128
    · have HE := Lib.hid (show okT t = true from by rw [HO.out]; simp [h1, h2])
      go_enter Try.func71, Try.ntmps71
      go_wp2
      go_ret
      exact ⟨ret_bool (by rw [HE.out]), rfl⟩
    · have HE := Lib.hid (show okT t = false from by rw [HO.out]; simp [h1, h2])
      go_enter Try.func71, Try.ntmps71
      go_wp2
      go_ret
      exact ⟨ret_bool (by rw [HE.out]), rfl⟩
  · have HE := Lib.hid (show okT t = false from by rw [HO.out]; simp [h1])
    go_enter Try.func71, Try.ntmps71
    go_wp2
    go_ret
    exact ⟨ret_bool (by rw [HE.out]), rfl⟩
set_option maxRecDepth 100000 in
theorem table_any (t : Int) (w : World) : Calls Try.prog 39 #[.int .i64 t] w fun e w' => e = .returned (.int .i64 (ttS t)) ∧ w = w' := by
  cases h : okT t with
  | true =>
    have HE := Lib.hid h
    obtain ⟨h1, h2⟩ := okT_true h
    have HT := Lib.hid (show ttS t = (t + 3) / 4 from by unfold ttS; rw [if_pos h])
    clear h
    go_enter Try.func39, Try.ntmps39
    go_wp2_with fail
    refine (tracksOK_any _ _).mono ?_
    rintro e w1 ⟨rfl, rfl⟩
    rw [HE.out]
    go_wp2_with fail
    go_ret
    exact ⟨ret_int (by rw [HT.out]), rfl⟩
  | false =>
    have HE := Lib.hid h
    have HT := Lib.hid (show ttS t = 0 from by unfold ttS; rw [if_neg (by rw [h]; simp)])
    clear h
    go_enter Try.func39, Try.ntmps39
    go_wp2_with fail
    refine (tracksOK_any _ _).mono ?_
    rintro e w1 ⟨rfl, rfl⟩
    rw [HE.out]
    go_wp2_with fail
    go_ret
    exact ⟨ret_int (by rw [HT.out]), rfl⟩
set_option maxRecDepth 100000 in
theorem slots_any (t : Int) (w : World) : Calls Try.prog 41 #[.int .i64 t] w fun e w' => e = .returned (.int .i64 (slotsS t)) ∧ w = w' := by
  obtain ⟨h0, h1⟩ := ttS_bd t
  have HS := Lib.hid (show slotsS t = max 0 (ttS t - 1) from rfl)
  have HC := Lib.hid (table_any t w)
  generalize ttS t = n at *
  by_cases h : 1 ≤ n
  · go_enter Try.func41, Try.ntmps41
    go_wp2_with fail
    refine HC.out.mono ?_
    rintro e w1 ⟨rfl, rfl⟩
    go_wp2_with fail
    all_goals
      go_ret
      exact ⟨ret_int (by rw [HS.out] <;> omega), rfl⟩
  · go_enter Try.func41, Try.ntmps41
    go_wp2_with fail
    refine HC.out.mono ?_
    rintro e w1 ⟨rfl, rfl⟩
    go_wp2_with fail
    all_goals
      go_ret
      exact ⟨ret_int (by rw [HS.out] <;> omega), rfl⟩
end Go.Proofs.Ytnlaogneceanoaa
namespace Go.Proofs.Ytnlaogneceanoaa
set_option linter.unusedVariables false
set_option linter.unusedSimpArgs false
set_option linter.unusedSectionVars false
open Go.RowKit
structure Lab where
  id : Int
  unit : Int
  name : ByteArray
  note : ByteArray
  ext : List (Int × Int)
instance : Inhabited Lab := ⟨⟨0, 0, ⟨#[]⟩, ⟨#[]⟩, []⟩⟩
def labZ : Lab := ⟨0, 0, ⟨#[]⟩, ⟨#[]⟩, []⟩
/-- A label in memory: its extents lie in the slice A of capacity c. -/
structure LabAt (w : World) (A : Option Addr) (c : Nat) (l : Lab) : Prop where
  id0 : -9223372036854775808 ≤ l.id
  id1 : l.id ≤ 9223372036854775807
  unit0 : -9223372036854775808 ≤ l.unit
  unit1 : l.unit ≤ 9223372036854775807
  name : l.name.size ≤ 9223372036854775807
  note : l.note.size ≤ 9223372036854775807
  runs : RunsAt w w.heap.size A l.ext
  len : l.ext.length ≤ c
  cap : c ≤ 9223372036854775807
theorem LabAt.hold {w w' : World} {A : Option Addr} {c : Nat} {l : Lab} (h : LabAt w A c l) (hg : Grew w w') : LabAt w' A c l :=
  ⟨h.id0, h.id1, h.unit0, h.unit1, h.name, h.note, ⟨h.runs.1, (ListAt.keep h.runs.2 (Nat.le_refl _) hg).mono hg.size⟩, h.len, h.cap⟩
theorem LabAt.zero (w : World) : LabAt w none 0 labZ := ⟨by decide, by decide, by decide, by decide, by decide, by decide, ⟨by simp [labZ], fun h => by simp [labZ] at h⟩, by simp [labZ], by omega⟩
def fewL (l : Lab) : Bool := decide (l.name.size ≤ 100) && decide (l.note.size ≤ 500) && decide (l.ext.length ≤ 30)
def eqL (a b : Lab) : Bool := (a.id == b.id) && ((a.unit == b.unit) && ((a.name.toList == b.name.toList) && ((a.note.toList == b.note.toList) && decide (a.ext = b.ext))))
set_option maxRecDepth 100000 in
set_option maxHeartbeats 1000000 in
theorem few_any (A : Option Addr) (c : Nat) (l : Lab) (w : World) (h : LabAt w A c l) :
    Calls Try.prog 8 #[.agg #[.int .i64 l.id, .int .i64 l.unit, .string l.name, .string l.note, .slice A l.ext.length c]] w fun e w' => e = .returned (.bool (fewL l)) ∧ Grew w w' := by
  have h1 := h.name
  have h2 := h.note
  have h3 := h.len
  have h4 := h.cap
  obtain ⟨id, unit, name, note, ext⟩ := l
  simp only at h1 h2 h3 h4
  have HF := Lib.hid (show fewL ⟨id, unit, name, note, ext⟩ = (decide (name.size ≤ 100) && decide (note.size ≤ 500) && decide (ext.length ≤ 30)) from rfl)
  clear h
  generalize ext.length = n at *
  by_cases b1 : name.size ≤ 100
  · by_cases b2 : note.size ≤ 500
    · by_cases b3 : n ≤ 30
      · have b3i : (n : Int) ≤ 30 := by omega
        have HE := Lib.hid (show fewL ⟨id, unit, name, note, ext⟩ = true from HF.out.trans (by simp [b1, b2, b3]))
        clear HF
        go_enter Try.func8, Try.ntmps8
        go_wp2
        go_ret
        exact ⟨ret_bool (by rw [HE.out]), by (repeat' first | (with_reducible exact Grew.refl _) | (with_reducible assumption) | (with_reducible refine Grew.alloc ?_ _) | (with_reducible refine Grew.drew ?_) | (with_reducible refine Grew.drewN ?_ _) | (with_reducible refine Grew.setRow ?_ (by first | (simp; done) | (simp; omega) | omega) _) | (with_reducible refine Grew.setCell ?_ (by first | (simp; done) | (simp; omega) | omega) _) | ((with_reducible apply Grew.trans); rotate_left; (with_reducible assumption)) | ((with_reducible apply Grew.turn); rotate_left; (with_reducible assumption); (focus (intro i hi; first | omega | (simp at hi; omega)))) | fail)⟩
      · have b3i : ¬ (n : Int) ≤ 30 := by omega
        have HE := Lib.hid (show fewL ⟨id, unit, name, note, ext⟩ = false from HF.out.trans (by simp [b1, b2, b3]))
        clear HF
        go_enter Try.func8, Try.ntmps8
        go_wp2
        go_ret
        exact ⟨ret_bool (by rw [HE.out]), by (repeat' first | (with_reducible exact Grew.refl _) | (with_reducible assumption) | (with_reducible refine Grew.alloc ?_ _) | (with_reducible refine Grew.drew ?_) | (with_reducible refine Grew.drewN ?_ _) | (with_reducible refine Grew.setRow ?_ (by first | (simp; done) | (simp; omega) | omega) _) | (with_reducible refine Grew.setCell ?_ (by first | (simp; done) | (simp; omega) | omega) _) | ((with_reducible apply Grew.trans); rotate_left; (with_reducible assumption)) | ((with_reducible apply Grew.turn); rotate_left; (with_reducible assumption); (focus (intro i hi; first | omega | (simp at hi; omega)))) | fail)⟩
    · have b3 := b2
      have HE := Lib.hid (show fewL ⟨id, unit, name, note, ext⟩ = false from HF.out.trans (by simp [b1, b2, b3]))
      clear HF
      go_enter Try.func8, Try.ntmps8
      go_wp2
      go_ret
      exact ⟨ret_bool (by rw [HE.out]), by (repeat' first | (with_reducible exact Grew.refl _) | (with_reducible assumption) | (with_reducible refine Grew.alloc ?_ _) | (with_reducible refine Grew.drew ?_) | (with_reducible refine Grew.drewN ?_ _) | (with_reducible refine Grew.setRow ?_ (by first | (simp; done) | (simp; omega) | omega) _) | (with_reducible refine Grew.setCell ?_ (by first | (simp; done) | (simp; omega) | omega) _) | ((with_reducible apply Grew.trans); rotate_left; (with_reducible assumption)) | ((with_reducible apply Grew.turn); rotate_left; (with_reducible assumption); (focus (intro i hi; first | omega | (simp at hi; omega)))) | fail)⟩
  · have b3 := b1
    have b2 := b1
    have HE := Lib.hid (show fewL ⟨id, unit, name, note, ext⟩ = false from HF.out.trans (by simp [b1, b2, b3]))
    clear HF
    go_enter Try.func8, Try.ntmps8
    go_wp2
    go_ret
    exact ⟨ret_bool (by rw [HE.out]), by (repeat' first | (with_reducible exact Grew.refl _) | (with_reducible assumption) | (with_reducible refine Grew.alloc ?_ _) | (with_reducible refine Grew.drew ?_) | (with_reducible refine Grew.drewN ?_ _) | (with_reducible refine Grew.setRow ?_ (by first | (simp; done) | (simp; omega) | omega) _) | (with_reducible refine Grew.setCell ?_ (by first | (simp; done) | (simp; omega) | omega) _) | ((with_reducible apply Grew.trans); rotate_left; (with_reducible assumption)) | ((with_reducible apply Grew.turn); rotate_left; (with_reducible assumption); (focus (intro i hi; first | omega | (simp at hi; omega)))) | fail)⟩
set_option maxRecDepth 100000 in
set_option maxHeartbeats 1000000 in
theorem lequal_any (A B : Option Addr) (c d : Nat) (a b : Lab) (w : World) (ha : LabAt w A c a) (hb : LabAt w B d b) (hla : a.ext.length ≤ 100000) (hlb : b.ext.length ≤ 100000) :
    Calls Try.prog 62 #[.agg #[.int .i64 a.id, .int .i64 a.unit, .string a.name, .string a.note, .slice A a.ext.length c], .agg #[.int .i64 b.id, .int .i64 b.unit, .string b.name, .string b.note, .slice B b.ext.length d]] w fun e w' => e = .returned (.bool (eqL a b)) ∧ Grew w w' := by
  obtain ⟨i1, u1, n1, t1, e1⟩ := a
  obtain ⟨i2, u2, n2, t2, e2⟩ := b
  have ra := ha.runs
  have rb := hb.runs
  simp only at ra rb hla hlb
  have ga := ((Grew.refl w).alloc (.cells #[.int .i64 i1, .int .i64 u1, .string n1, .string t1, .slice A e1.length c] 24)).alloc (.cells #[.int .i64 i2, .int .i64 u2, .string n2, .string t2, .slice B e2.length d] 24)
  have HC := Lib.hid (equal_any A B c d e1 e2 _ w.heap.size ga.size (by omega) (by omega) (ra.keep (Nat.le_refl _) ga) (rb.keep (Nat.le_refl _) ga))
  have HE := Lib.hid (show eqL ⟨i1, u1, n1, t1, e1⟩ ⟨i2, u2, n2, t2, e2⟩ = ((i1 == i2) && ((u1 == u2) && ((n1.toList == n2.toList) && ((t1.toList == t2.toList) && decide (e1 = e2))))) from rfl)
  have HG := Lib.hid ga
  clear ha hb ra rb ga
  cases b1 : (i1 == i2) with
  | false =>
    have HB := Lib.hid b1
    go_enter Try.func62, Try.ntmps62
    go_wp2_with fail
    go_ret
    exact ⟨ret_bool (by rw [HE.out, HB.out]; rfl), HG.out⟩
  | true =>
    have HB1 := Lib.hid b1
    cases b2 : (u1 == u2) with
    | false =>
      have HB := Lib.hid b2
      go_enter Try.func62, Try.ntmps62
      go_wp2_with fail
      go_ret
      exact ⟨ret_bool (by rw [HE.out, HB1.out, HB.out]; rfl), HG.out⟩
    | true =>
      have HB2 := Lib.hid b2
      cases b3 : (n1.toList == n2.toList) with
      | false =>
        have HB := Lib.hid b3
        go_enter Try.func62, Try.ntmps62
        go_wp2_with fail
        go_ret
        exact ⟨ret_bool (by rw [HE.out, HB1.out, HB2.out, HB.out]; rfl), HG.out⟩
      | true =>
        have HB3 := Lib.hid b3
        cases b4 : (t1.toList == t2.toList) with
        | false =>
          have HB := Lib.hid b4
          go_enter Try.func62, Try.ntmps62
          go_wp2_with fail
          go_ret
          exact ⟨ret_bool (by rw [HE.out, HB1.out, HB2.out, HB3.out, HB.out]; rfl), HG.out⟩
        | true =>
          have HB := Lib.hid b4
          go_enter Try.func62, Try.ntmps62
          go_wp2_with fail
          refine HC.out.mono ?_
          rintro e w1 ⟨rfl, g1⟩
          go_wp2_with fail
          go_ret
          exact ⟨ret_bool (by rw [HE.out, HB1.out, HB2.out, HB3.out, HB.out]; simp), HG.out.trans g1⟩
end Go.Proofs.Ytnlaogneceanoaa
namespace Go.Proofs.Ytnlaogneceanoaa
set_option linter.unusedVariables false
set_option linter.unusedSimpArgs false
set_option linter.unusedSectionVars false
open Go.RowKit
section
variable {P : Program} {ops : Array Oper} {Q : Exit → Act → World → Prop} {md : Region.Mode} {A : Nat → Bool} {S : World → Prop}
/-- What is listed has come up behind all that it waits for. -/
def Down (md : Region.Mode) (ops : Array Oper) (listed : Array Bool) : Prop :=
  ∀ j oj, ops[j]? = some oj → listed.getD j true = true → ∀ e ∈ oj.after, Region.binds md e = true → listed.getD e.on false = true
theorem Down.step {listed : Array Bool} (h : Down md ops listed) {j : Nat} (hj : j ∈ Region.ready md ops listed) : Down md ops (listed.setIfInBounds j true) := by
  intro k ok hk hl e he hb
  by_cases hjk : j = k
  · subst hjk
    obtain ⟨_, oj, hoj, hall⟩ := mem_ready.1 hj
    rw [hoj] at hk
    injection hk with hk
    subst hk
    exact getD_set_true (hall e he hb)
  · rw [getD_set_ne true hjk] at hl
    exact getD_set_true (h k ok hk hl e he hb)
/-- 'late' names operations that wait for i, at once or through one another. -/
def Late (md : Region.Mode) (ops : Array Oper) (i : Nat) (late : Nat → Bool) : Prop :=
  ∀ j oj, ops[j]? = some oj → late j = true → ∃ e ∈ oj.after, Region.binds md e = true ∧ (e.on = i ∨ (late e.on = true ∧ e.on < j ∧ e.on < ops.size))
theorem Late.unlisted {i : Nat} {late : Nat → Bool} (h : Late md ops i late) {listed : Array Bool} (hd : Down md ops listed) (hi : listed.getD i false = false) : ∀ j, j < ops.size → late j = true → listed.getD j true = false := by
  intro j
  induction j using Nat.strongRecOn with
  | ind j ih =>
    intro hj hl
    obtain ⟨e, he, hb, hor⟩ := h j ops[j] (Array.getElem?_eq_getElem hj) hl
    cases hlj : listed.getD j true with
    | false => rfl
    | true =>
      have h1 := hd j ops[j] (Array.getElem?_eq_getElem hj) hlj e he hb
      rcases hor with h2 | ⟨h2, h3, h4⟩
      · rw [h2, hi] at h1; cases h1
      · have h5 := ih e.on h3 h4 h2
        rcases Nat.lt_or_ge e.on listed.size with h6 | h6
        · simp [h6] at h1 h5; rw [h1] at h5; cases h5
        · simp [Array.getElem?_eq_none h6] at h1
/-- The side conditions, to be reckoned. -/
def downB (md : Region.Mode) (ops : Array Oper) (listed : Array Bool) : Bool :=
  (List.range ops.size).all fun j => !listed.getD j true || (match ops[j]? with | some o => o.after.all (fun e => !Region.binds md e || listed.getD e.on false) | none => true)
theorem downB_spec {listed : Array Bool} (h : downB md ops listed = true) : Down md ops listed := by
  intro j oj hj hl e he hb
  have hlt := (Array.getElem?_eq_some_iff.1 hj).1
  have h1 := List.all_eq_true.1 h j (List.mem_range.2 hlt)
  simp only [hl, hj, Bool.not_true, Bool.false_or] at h1
  have h2 := (Array.all_eq_true_iff_forall_mem.1 h1) e he
  simpa [hb] using h2
def lateB (md : Region.Mode) (ops : Array Oper) (i : Nat) (late : Nat → Bool) : Bool :=
  (List.range ops.size).all fun j => !late j || (match ops[j]? with | some o => o.after.any (fun e => Region.binds md e && (e.on == i || (late e.on && decide (e.on < j) && decide (e.on < ops.size)))) | none => true)
theorem lateB_spec {i : Nat} {late : Nat → Bool} (h : lateB md ops i late = true) : Late md ops i late := by
  intro j oj hj hl
  have hlt := (Array.getElem?_eq_some_iff.1 hj).1
  have h1 := List.all_eq_true.1 h j (List.mem_range.2 hlt)
  simp only [hl, hj, Bool.not_true, Bool.false_or] at h1
  obtain ⟨e, he, h2⟩ := Array.any_eq_true'.1 h1
  simp only [Bool.and_eq_true, Bool.or_eq_true, beq_iff_eq, decide_eq_true_eq] at h2
  exact ⟨e, he, h2.1, h2.2.imp id (fun h => ⟨h.1.1, h.1.2, h.2⟩)⟩
end
end Go.Proofs.Ytnlaogneceanoaa
namespace Go.Proofs.Ytnlaogneceanoaa
set_option linter.unusedVariables false
set_option linter.unusedSimpArgs false
set_option linter.unusedSectionVars false
open Go.RowKit
section
variable {P : Program} {ops : Array Oper} {Q : Exit → Act → World → Prop} {md : Region.Mode} {A : Nat → Bool} {S : World → Prop}
def wpAnyR (P : Program) (md : Region.Mode) (ops : Array Oper) (Q : Exit → Act → World → Prop) (A : Nat → Bool) (S : World → Prop) : Nat → Array Bool → Act → World → Prop
  | 0, listed, a, w => Region.ready md ops listed = [] ∧ Q .normal a w
  | fuel + 1, listed, a, w =>
    (Region.ready md ops listed = [] → Q .normal a w) ∧
    ∀ i ∈ Region.ready md ops listed, wpOp P ops Q i (fun a' w' => (A i = true ∨ (S w → S w')) ∧ wpAnyR P md ops Q A S fuel (listed.setIfInBounds i true) a' w') a w
theorem wpAny_of_R : ∀ (fuel : Nat) (listed : Array Bool) (a : Act) (w : World), wpAnyR P md ops Q A S fuel listed a w → wpAny P md ops Q fuel listed a w
  | 0, _, _, _, h => h
  | fuel + 1, _, _, _, h => ⟨h.1, fun i hi => wpOp_mono (fun a' w' h' => wpAny_of_R fuel _ a' w' h'.2) (h.2 i hi)⟩
theorem wpAnyR_first {i : Nat} {oi : Oper} {v : Value} {late : Nat → Bool} (hi : ops[i]? = some oi) (hsel : ∀ (j : Nat) (o : Oper) cs b, ops[j]? = some o → o.op ≠ .select cs b)
    (hlate : Late md ops i late) (hA : ∀ j, A j = true → late j = true) (hAi : A i = false)
    (hQ : ∀ c a w, Q (.panic c) (a.put oi.dst v) w → Q (.panic c) a w) :
    ∀ (fuel : Nat) (listed : Array Bool) (a : Act) (w : World), Down md ops listed →
      (∀ j oj, ops[j]? = some oj → j ≠ i → listed.getD j true = false → (∀ e ∈ oj.after, Region.binds md e = true → e.on ≠ i) → oi.apart ops oj = true) →
      i ∈ Region.ready md ops listed → YieldsIf P ops S oi v a → S w →
      wpAnyR P md ops Q A S fuel (listed.setIfInBounds i true) (a.put oi.dst v) w → wpAnyR P md ops Q A S (fuel + 1) listed a w := by
  intro fuel
  have hii : i < ops.size := (Array.getElem?_eq_some_iff.1 hi).1
  have key : ∀ (listed : Array Bool), Down md ops listed → i ∈ Region.ready md ops listed → ∀ j, j ∈ Region.ready md ops listed → j ≠ i → A j = false := by
    intro listed hd hr j hj hji
    cases hAj : A j with
    | false => rfl
    | true =>
      exfalso
      have hl := hA j hAj
      obtain ⟨hjun, oj, hoj, hall⟩ := mem_ready.1 hj
      obtain ⟨e, he, hb, hor⟩ := hlate j oj hoj hl
      have h1 := hall e he hb
      have h0 := (mem_ready.1 hr).1
      have hi0 : listed.getD i false = false := by
        rcases Nat.lt_or_ge i listed.size with h' | h'
        · simp [h'] at h0 ⊢; exact h0
        · simp [Array.getElem?_eq_none h']
      rcases hor with h2 | ⟨h2, h3, h4⟩
      · rw [h2, hi0] at h1; cases h1
      · have h5 := hlate.unlisted hd hi0 e.on h4 h2
        rcases Nat.lt_or_ge e.on listed.size with h6 | h6
        · simp [h6] at h1 h5; rw [h1] at h5; cases h5
        · simp [Array.getElem?_eq_none h6] at h1
  induction fuel with
  | zero =>
    intro listed a w hd _ hr hy hS H
    refine ⟨fun h => (by rw [h] at hr; cases hr), fun j hj => ?_⟩
    by_cases hji : j = i
    · subst hji; exact hy.wpOp hi hS ⟨.inr (fun h => h), H⟩
    · have := ready_mono hj hji
      rw [H.1] at this
      cases this
  | succ fuel ih =>
    intro listed a w hd hfree hr hy hS H
    refine ⟨fun h => (by rw [h] at hr; cases hr), fun j hj => ?_⟩
    by_cases hji : j = i
    · subst hji; exact hy.wpOp hi hS ⟨.inr (fun h => h), H⟩
    · have h1 := H.2 j (ready_mono hj hji)
      have hAj := key listed hd hr j hj hji
      obtain ⟨hjun, oj, hoj, hall⟩ := mem_ready.1 hj
      have hnot : ∀ e ∈ oj.after, Region.binds md e = true → e.on ≠ i := fun e he hb heq => by
        have h1 := hall e he hb
        have h0 := (mem_ready.1 hr).1
        rw [heq] at h1
        rcases Nat.lt_or_ge i listed.size with h' | h'
        · simp [h'] at h0 h1; rw [h0] at h1; cases h1
        · simp [Array.getElem?_eq_none h'] at h1
      have h2 := wpOp_putIf hoj (hfree j oj hoj hji hjun hnot) (fun cs b => hsel i oi cs b hi) (fun cs b => hsel j oj cs b hoj) hQ hy h1
      have hfree' : ∀ k ok, ops[k]? = some ok → k ≠ i → (listed.setIfInBounds j true).getD k true = false →
          (∀ e ∈ ok.after, Region.binds md e = true → e.on ≠ i) → oi.apart ops ok = true := fun k ok hk hki hun hno => by
        refine hfree k ok hk hki ?_ hno
        by_cases hjk : j = k
        · subst hjk; exact hjun
        · rw [getD_set_ne true hjk] at hun; exact hun
      refine wpOp_mono (fun a' w' h3 => ?_) h2
      have hS' : S w' := h3.2.1.resolve_left (by rw [hAj]; simp) hS
      refine ⟨h3.2.1, ih (listed.setIfInBounds j true) a' w' (hd.step hj) hfree' (ready_mono hr (Ne.symm hji)) h3.1 hS' ?_⟩
      rw [Array.setIfInBounds_comm _ _ hji]
      exact h3.2.2
theorem wpAnyR_firstQ {i : Nat} {oi : Oper} {v : Value} (hi : ops[i]? = some oi) (hsel : ∀ (j : Nat) (o : Oper) cs b, ops[j]? = some o → o.op ≠ .select cs b)
    (hQ : ∀ c a w, Q (.panic c) (a.put oi.dst v) w → Q (.panic c) a w) :
    ∀ (fuel : Nat) (listed : Array Bool) (a : Act) (w : World), Down md ops listed →
      (∀ j oj, ops[j]? = some oj → j ≠ i → listed.getD j true = false → (∀ e ∈ oj.after, Region.binds md e = true → e.on ≠ i) → oi.apart ops oj = true) →
      i ∈ Region.ready md ops listed → YieldsIf P ops (fun _ => True) oi v a →
      wpAnyR P md ops Q A S fuel (listed.setIfInBounds i true) (a.put oi.dst v) w → wpAnyR P md ops Q A S (fuel + 1) listed a w := by
  intro fuel
  induction fuel with
  | zero =>
    intro listed a w hd _ hr hy H
    refine ⟨fun h => (by rw [h] at hr; cases hr), fun j hj => ?_⟩
    by_cases hji : j = i
    · subst hji; exact hy.wpOp hi trivial ⟨.inr (fun h => h), H⟩
    · have := ready_mono hj hji
      rw [H.1] at this
      cases this
  | succ fuel ih =>
    intro listed a w hd hfree hr hy H
    refine ⟨fun h => (by rw [h] at hr; cases hr), fun j hj => ?_⟩
    by_cases hji : j = i
    · subst hji; exact hy.wpOp hi trivial ⟨.inr (fun h => h), H⟩
    · have h1 := H.2 j (ready_mono hj hji)
      obtain ⟨hjun, oj, hoj, hall⟩ := mem_ready.1 hj
      have hnot : ∀ e ∈ oj.after, Region.binds md e = true → e.on ≠ i := fun e he hb heq => by
        have h1 := hall e he hb
        have h0 := (mem_ready.1 hr).1
        rw [heq] at h1
        rcases Nat.lt_or_ge i listed.size with h' | h'
        · simp [h'] at h0 h1; rw [h0] at h1; cases h1
        · simp [Array.getElem?_eq_none h'] at h1
      have h2 := wpOp_putIf hoj (hfree j oj hoj hji hjun hnot) (fun cs b => hsel i oi cs b hi) (fun cs b => hsel j oj cs b hoj) hQ hy h1
      have hfree' : ∀ k ok, ops[k]? = some ok → k ≠ i → (listed.setIfInBounds j true).getD k true = false →
          (∀ e ∈ ok.after, Region.binds md e = true → e.on ≠ i) → oi.apart ops ok = true := fun k ok hk hki hun hno => by
        refine hfree k ok hk hki ?_ hno
        by_cases hjk : j = k
        · subst hjk; exact hjun
        · rw [getD_set_ne true hjk] at hun; exact hun
      refine wpOp_mono (fun a' w' h3 => ?_) h2
      refine ⟨h3.2.1, ih (listed.setIfInBounds j true) a' w' (hd.step hj) hfree' (ready_mono hr (Ne.symm hji)) h3.1 ?_⟩
      rw [Array.setIfInBounds_comm _ _ hji]
      exact h3.2.2
theorem wpAnyR_take {i : Nat} {oi : Oper} {v : Value} {fuel : Nat} {listed : Array Bool} {a : Act} {w : World} {al : List Nat} (late : List Nat) (d : Option Tmp) (hi : ops[i]? = some oi) (hdst : oi.dst = d)
    (hs : Region.noSelect ops = true) (hd : downB md ops listed = true) (hl : lateB md ops i late.contains = true) (hA : al.all late.contains = true) (hAi : al.contains i = false)
    (hf : Region.free md ops listed i = true) (hr : (Region.ready md ops listed).contains i = true)
    (hQ : ∀ c a w, Q (.panic c) (a.put oi.dst v) w → Q (.panic c) a w) (hy : YieldsIf P ops S oi v a) (hS : S w)
    (h : wpAnyR P md ops Q al.contains S fuel (listed.setIfInBounds i true) (a.put d v) w) : wpAnyR P md ops Q al.contains S (fuel + 1) listed a w := by
  subst hdst
  exact wpAnyR_first hi (Region.noSelect_spec hs) (lateB_spec hl) (fun j hj => List.all_eq_true.1 hA j (by simpa using hj)) hAi hQ fuel listed a w (downB_spec hd) (Region.free_spec hi hf) (by simpa using hr) hy hS h
theorem wpAnyR_takeQ {i : Nat} {oi : Oper} {v : Value} {fuel : Nat} {listed : Array Bool} {a : Act} {w : World} {al : List Nat} (d : Option Tmp) (hi : ops[i]? = some oi) (hdst : oi.dst = d)
    (hs : Region.noSelect ops = true) (hd : downB md ops listed = true)
    (hf : Region.free md ops listed i = true) (hr : (Region.ready md ops listed).contains i = true)
    (hQ : ∀ c a w, Q (.panic c) (a.put oi.dst v) w → Q (.panic c) a w) (hy : YieldsIf P ops (fun _ => True) oi v a)
    (h : wpAnyR P md ops Q al.contains S fuel (listed.setIfInBounds i true) (a.put d v) w) : wpAnyR P md ops Q al.contains S (fuel + 1) listed a w := by
  subst hdst
  exact wpAnyR_firstQ hi (Region.noSelect_spec hs) hQ fuel listed a w (downB_spec hd) (Region.free_spec hi hf) (by simpa using hr) hy h
theorem wpAnyR_n1 {i : Nat} {oi : Oper} {fuel : Nat} {listed : Array Bool} {a : Act} {w : World} {al : List Nat} (hoi : ops[i]? = some oi) (hr : Region.ready md ops listed = [i])
    (gi : (∀ K' : Act → World → Prop, Shut (∀ a' w', (al.contains i = true ∨ (S w → S w')) → wpAnyR P md ops Q al.contains S fuel (listed.setIfInBounds i true) a' w' → K' a' w') → if Region.wanted oi (yielded ops a.tmps) = true then Oper.wp P oi a w K' Q else K' (a.put oi.dst undef) w))
    : wpAnyR P md ops Q al.contains S (fuel + 1) listed a w :=
  ⟨fun h0 => absurd (hr ▸ h0) (by simp), fun x hx => (by
    rw [hr] at hx
    rw [List.mem_singleton.1 hx]
    exact wpOp_step hoi (fun K' hK => gi K' (fun a' w' hS hW => hK a' w' ⟨hS, hW⟩)))⟩
theorem wpAnyR_done {listed : Array Bool} {a : Act} {w : World} {al : List Nat} (hr : Region.ready md ops listed = []) (h : Q .normal a w) : ∀ fuel, wpAnyR P md ops Q al.contains S fuel listed a w
  | 0 => ⟨hr, h⟩
  | _ + 1 => ⟨fun _ => h, by rw [hr]; simp⟩
theorem wp_region_R {id : Nat} {a : Act} {w : World} (al : List Nat) (S : World → Prop) (hm : P.follows .mixedOrders = true)
    (h : wpAnyR P .any ops Q al.contains S ops.size (Array.replicate ops.size false) a w.drew) : (Code.region id ops true).wp P Q a w :=
  wp_region_any hm (wpAny_of_R _ _ _ _ h)
end
end Go.Proofs.Ytnlaogneceanoaa
namespace Go.Proofs.Ytnlaogneceanoaa
set_option linter.unusedVariables false
set_option linter.unusedSimpArgs false
set_option linter.unusedSectionVars false
open Go.RowKit
def idB (l : Lab) : Bool := decide (1 ≤ l.id ∧ l.id ≤ 1099511627776 ∧ 0 ≤ l.unit ∧ l.unit ≤ 1099511627776)
def txB (l : Lab) : Bool := decide (l.name.size ≤ 31 ∧ l.note.size ≤ 400)
def cnB (l : Lab) : Bool := decide (1 ≤ l.ext.length ∧ l.ext.length ≤ 16)
def jnB (l : Lab) : Bool := decide (ints (joinS l.ext) = l.ext) && decide (seqS l.ext).Nodup
def badR (t : Int) (r : Int × Int) : Bool := decide (r.1 < ttS t) || decide (t < r.1 + r.2)
def inB (l : Lab) (t : Int) : Bool := !(l.ext.any (badR t))
def condS (l : Lab) (t : Int) : Nat → Bool
  | 0 => okT t
  | 1 => idB l
  | 2 => txB l
  | 3 => cnB l
  | 4 => jnB l
  | _ => inB l t
def validL (l : Lab) (t : Int) : Bool := okT t && (idB l && (txB l && (cnB l && (jnB l && inB l t))))
theorem valid_false (l : Lab) (t : Int) (k : Nat) (h : condS l t k = false) : validL l t = false := by
  unfold validL
  match k with
  | 0 => rw [show okT t = false from h]; rfl
  | 1 => rw [show idB l = false from h]; simp
  | 2 => rw [show txB l = false from h]; simp
  | 3 => rw [show cnB l = false from h]; simp
  | 4 => rw [show jnB l = false from h]; simp
  | k + 5 => rw [show inB l t = false from h]; simp
theorem valid_true (l : Lab) (t : Int) (h : ∀ k, k < 6 → condS l t k = true) : validL l t = true := by
  unfold validL
  rw [show okT t = true from h 0 (by omega), show idB l = true from h 1 (by omega), show txB l = true from h 2 (by omega), show cnB l = true from h 3 (by omega), show jnB l = true from h 4 (by omega), show inB l t = true from h 5 (by omega)]
  rfl
theorem jn_bd (l : Lab) (h : jnB l = true) : ∀ r ∈ l.ext, 0 ≤ r.1 ∧ 0 ≤ r.2 ∧ r.1 + r.2 ≤ 128 := by
  unfold jnB at h
  rw [Bool.and_eq_true, decide_eq_true_eq] at h
  intro r hr
  rw [← h.1] at hr
  obtain ⟨x, hx, rfl⟩ := List.mem_map.1 hr
  have := joinS_bd l.ext x hx
  simp only
  omega
section
variable (A : Option Addr) (c : Nat) (l : Lab) (g : Nat) (w : World)
set_option maxRecDepth 100000 in
theorem cond0_any (t : Int) (hb : Blk w g 3 #[.int .i64 t]) :
    Calls Try.prog 72 #[.pointer (some ⟨g, 0, none⟩)] w fun e w' => e = .returned (.bool (okT t)) ∧ Grew w w' := by
  have x0 := hb.cell 0
  have hl := hb.lt
  go_enter Try.func72, Try.ntmps72
  go_wp2_with fail
  refine (tracksOK_any _ _).mono ?_
  rintro e w1 ⟨rfl, rfl⟩
  go_wp2_with fail
  go_ret
  exact ⟨rfl, Grew.refl _⟩
set_option maxRecDepth 100000 in
theorem cond1_any (hb : Blk w g 24 #[.int .i64 l.id, .int .i64 l.unit, .string l.name, .string l.note, .slice A l.ext.length c]) :
    Calls Try.prog 73 #[.pointer (some ⟨g, 0, none⟩)] w fun e w' => e = .returned (.bool (idB l)) ∧ Grew w w' := by
  have x0 := hb.cell 0
  have x1 := hb.cell 1
  have hl := hb.lt
  obtain ⟨id, unit, name, note, ext⟩ := l
  simp only at x0 x1
  have HE := Lib.hid (show idB ⟨id, unit, name, note, ext⟩ = decide (1 ≤ id ∧ id ≤ 1099511627776 ∧ 0 ≤ unit ∧ unit ≤ 1099511627776) from rfl)
  clear hb
  by_cases h1 : 1 ≤ id
  · by_cases h2 : id ≤ 1099511627776
    · by_cases h3 : 0 ≤ unit
      · by_cases h4 : unit ≤ 1099511627776
        · have HF := Lib.hid (show idB ⟨id, unit, name, note, ext⟩ = true from HE.out.trans (by simp [h1, h2, h3, h4]))
          clear HE
          go_enter Try.func73, Try.ntmps73
          go_wp2_with fail
          go_ret
          exact ⟨ret_bool (by rw [HF.out]), Grew.refl _⟩
        · have HF := Lib.hid (show idB ⟨id, unit, name, note, ext⟩ = false from HE.out.trans (by simp [h1, h2, h3, h4]))
          clear HE
          go_enter Try.func73, Try.ntmps73
          go_wp2_with fail
          go_ret
          exact ⟨ret_bool (by rw [HF.out]), Grew.refl _⟩
      · have HF := Lib.hid (show idB ⟨id, unit, name, note, ext⟩ = false from HE.out.trans (by simp [h1, h2, h3]))
        clear HE
        go_enter Try.func73, Try.ntmps73
        go_wp2_with fail
        go_ret
        exact ⟨ret_bool (by rw [HF.out]), Grew.refl _⟩
    · have HF := Lib.hid (show idB ⟨id, unit, name, note, ext⟩ = false from HE.out.trans (by simp [h1, h2]))
      clear HE
      go_enter Try.func73, Try.ntmps73
      go_wp2_with fail
      go_ret
      exact ⟨ret_bool (by rw [HF.out]), Grew.refl _⟩
  · have HF := Lib.hid (show idB ⟨id, unit, name, note, ext⟩ = false from HE.out.trans (by simp [h1]))
    clear HE
    go_enter Try.func73, Try.ntmps73
    go_wp2_with fail
    go_ret
    exact ⟨ret_bool (by rw [HF.out]), Grew.refl _⟩
set_option maxRecDepth 100000 in
theorem cond2_any (hs1 : l.name.size ≤ 9223372036854775807) (hs2 : l.note.size ≤ 9223372036854775807) (hb : Blk w g 24 #[.int .i64 l.id, .int .i64 l.unit, .string l.name, .string l.note, .slice A l.ext.length c]) :
    Calls Try.prog 74 #[.pointer (some ⟨g, 0, none⟩)] w fun e w' => e = .returned (.bool (txB l)) ∧ Grew w w' := by
  have x0 := hb.cell 2
  have x1 := hb.cell 3
  have hl := hb.lt
  obtain ⟨id, unit, name, note, ext⟩ := l
  simp only at x0 x1 hs1 hs2
  have HE := Lib.hid (show txB ⟨id, unit, name, note, ext⟩ = decide (name.size ≤ 31 ∧ note.size ≤ 400) from rfl)
  clear hb
  by_cases h1 : name.size ≤ 31
  · by_cases h2 : note.size ≤ 400
    · have h2i : (note.size : Int) ≤ 400 := by omega
      have HF := Lib.hid (show txB ⟨id, unit, name, note, ext⟩ = true from HE.out.trans (by simp [h1, h2]))
      clear HE
      go_enter Try.func74, Try.ntmps74
      go_wp2_with fail
      go_ret
      exact ⟨ret_bool (by rw [HF.out]), Grew.refl _⟩
    · have h2i : ¬ (note.size : Int) ≤ 400 := by omega
      have HF := Lib.hid (show txB ⟨id, unit, name, note, ext⟩ = false from HE.out.trans (by simp [h1, h2]))
      clear HE
      go_enter Try.func74, Try.ntmps74
      go_wp2_with fail
      go_ret
      exact ⟨ret_bool (by rw [HF.out]), Grew.refl _⟩
  · have HF := Lib.hid (show txB ⟨id, unit, name, note, ext⟩ = false from HE.out.trans (by simp [h1]))
    clear HE
    go_enter Try.func74, Try.ntmps74
    go_wp2_with fail
    go_ret
    exact ⟨ret_bool (by rw [HF.out]), Grew.refl _⟩
set_option maxRecDepth 100000 in
theorem cond3_any (hs : l.ext.length ≤ 1000000000) (hb : Blk w g 24 #[.int .i64 l.id, .int .i64 l.unit, .string l.name, .string l.note, .slice A l.ext.length c]) :
    Calls Try.prog 75 #[.pointer (some ⟨g, 0, none⟩)] w fun e w' => e = .returned (.bool (cnB l)) ∧ Grew w w' := by
  have x1 := hb.cell 4
  have hl := hb.lt
  obtain ⟨id, unit, name, note, ext⟩ := l
  simp only at x1 hs
  have HE := Lib.hid (show cnB ⟨id, unit, name, note, ext⟩ = decide (1 ≤ ext.length ∧ ext.length ≤ 16) from rfl)
  clear hb
  generalize ext.length = n at *
  by_cases h1 : 1 ≤ n
  · have h1i : 1 ≤ (n : Int) := by omega
    by_cases h2 : n ≤ 16
    · have h2i : (n : Int) ≤ 16 := by omega
      have HF := Lib.hid (show cnB ⟨id, unit, name, note, ext⟩ = true from HE.out.trans (by simp [h1, h2]))
      clear HE
      go_enter Try.func75, Try.ntmps75
      go_wp2_with fail
      go_ret
      exact ⟨ret_bool (by rw [HF.out]), Grew.refl _⟩
    · have h2i : ¬ (n : Int) ≤ 16 := by omega
      have HF := Lib.hid (show cnB ⟨id, unit, name, note, ext⟩ = false from HE.out.trans (by simp [h1, h2]))
      clear HE
      go_enter Try.func75, Try.ntmps75
      go_wp2_with fail
      go_ret
      exact ⟨ret_bool (by rw [HF.out]), Grew.refl _⟩
  · have h1i : ¬ 1 ≤ (n : Int) := by omega
    have HF := Lib.hid (show cnB ⟨id, unit, name, note, ext⟩ = false from HE.out.trans (by simp [h1]))
    clear HE
    go_enter Try.func75, Try.ntmps75
    go_wp2_with fail
    go_ret
    exact ⟨ret_bool (by rw [HF.out]), Grew.refl _⟩
end
end Go.Proofs.Ytnlaogneceanoaa
namespace Go.Proofs.Ytnlaogneceanoaa
set_option linter.unusedVariables false
set_option linter.unusedSimpArgs false
set_option linter.unusedSectionVars false
open Go.RowKit
attribute [local go_sem ↓] Go.wp_at_zero Go.wp_at_succ
theorem RunsAt.mono2 {w : World} {B B' : Nat} {A : Option Addr} {l : List (Int × Int)} (h : RunsAt w B A l) (hB : B ≤ B') : RunsAt w B' A l := ⟨h.1, h.2.mono hB⟩
section
variable (A : Option Addr) (c : Nat) (l : Lab) (g : Nat) (w : World)
set_option maxRecDepth 100000 in
set_option maxHeartbeats 1000000 in
theorem cond4_any (h : LabAt w A c l) (hs : l.ext.length ≤ 100000) (hb : Blk w g 24 #[.int .i64 l.id, .int .i64 l.unit, .string l.name, .string l.note, .slice A l.ext.length c]) :
    Calls Try.prog 76 #[.pointer (some ⟨g, 0, none⟩)] w fun e w' => e = .returned (.bool (jnB l)) ∧ Grew w w' := by
  have hl := hb.lt
  have hJ := jnB l
  obtain ⟨k, hk⟩ : ∃ k, ints (joinS l.ext) = k := ⟨_, rfl⟩
  have hkl : k.length ≤ l.ext.length := by rw [← hk, ints_len]; exact joinS_len _
  have HR := Lib.hid h.runs
  have HB := Lib.hid hb
  have HK := Lib.hid hk
  have HE := Lib.hid (show jnB l = (decide (k = l.ext) && decide (seqS l.ext).Nodup) from by unfold jnB; rw [hk])
  clear h hk hJ
  cases hj : decide (k = l.ext) with
  | false =>
    have HJ := Lib.hid hj
    have HF := Lib.hid (show jnB l = false from HE.out.trans (by rw [hj]; rfl))
    clear hj HE
    go_enter Try.func76, Try.ntmps76
    go_wp2_with fail
    refine wp_region_R [] (fun w' : World => w'.cell? ⟨g, 4, none⟩ = some (.slice A l.ext.length c)) (by kernel_rfl) ?_
    have hS := HB.out.drew.cell 4
    refine wpAnyR_takeQ (i := 0) (v := ?_) (some 2) rfl rfl (by kernel_rfl) (by kernel_rfl) (by kernel_rfl) (by kernel_rfl) (fun _ _ _ h => h) (Or.inl ⟨by rfl, ?_⟩) ?_
    rotate_left
    focus (intro wS hSw; (try dsimp only at hSw); go_simp; (try with_reducible rfl); (try (first | (rw [if_pos (by omega)]; (try go_simp); (try with_reducible rfl)) | (rw [if_neg (by omega)]; (try go_simp); (try with_reducible rfl)))))
    try simp only [Act.put, zA, zB, zC]
    refine wpAnyR_take (i := 1) (v := ?_) [2, 5, 6, 7, 8, 9, 10, 11] (some 3) rfl rfl (by kernel_rfl) (by kernel_rfl) (by kernel_rfl) (by kernel_rfl) (by kernel_rfl) (by kernel_rfl) (by kernel_rfl) (fun _ _ _ h => h) (Or.inl ⟨by rfl, ?_⟩) hS ?_
    rotate_left
    focus (intro wS hSw; (try dsimp only at hSw); go_simp; (try with_reducible rfl); (try (first | (rw [if_pos (by omega)]; (try go_simp); (try with_reducible rfl)) | (rw [if_neg (by omega)]; (try go_simp); (try with_reducible rfl)))))
    try simp only [Act.put, zA, zB, zC]
    refine wpAnyR_takeQ (i := 3) (v := ?_) (some 5) rfl rfl (by kernel_rfl) (by kernel_rfl) (by kernel_rfl) (by kernel_rfl) (fun _ _ _ h => h) (Or.inl ⟨by rfl, ?_⟩) ?_
    rotate_left
    focus (intro wS hSw; (try dsimp only at hSw); go_simp; (try with_reducible rfl); (try (first | (rw [if_pos (by omega)]; (try go_simp); (try with_reducible rfl)) | (rw [if_neg (by omega)]; (try go_simp); (try with_reducible rfl)))))
    try simp only [Act.put, zA, zB, zC]
    refine wpAnyR_take (i := 4) (v := ?_) [5, 6, 7, 8, 9, 10, 11] (some 6) rfl rfl (by kernel_rfl) (by kernel_rfl) (by kernel_rfl) (by kernel_rfl) (by kernel_rfl) (by kernel_rfl) (by kernel_rfl) (fun _ _ _ h => h) (Or.inl ⟨by rfl, ?_⟩) hS ?_
    rotate_left
    focus (intro wS hSw; (try dsimp only at hSw); go_simp; (try with_reducible rfl); (try (first | (rw [if_pos (by omega)]; (try go_simp); (try with_reducible rfl)) | (rw [if_neg (by omega)]; (try go_simp); (try with_reducible rfl)))))
    try simp only [Act.put, zA, zB, zC]
    refine wpAnyR_n1 (i := 2) rfl (by kernel_rfl) ?_
    intro K' hK
    rw [if_pos (by rfl)]
    simp only [List.getElem_toArray, List.getElem_cons_succ, List.getElem_cons_zero]
    go_wp2_with fail
    refine (join_val A c _ l.ext w.drew rfl (by omega) HR.out k HK.out).mono ?_
    rintro e w1 ⟨A1, c1, rfl, hr1, g1⟩
    have HR1 := Lib.hid hr1
    clear hr1
    go_wp2_with fail
    refine hK.out _ _ (.inr (fun _ => (HB.out.drew.grew g1).cell 4)) ?_
    clear hK hS
    have g1' : Grew w w1 := (Grew.refl w).drew.trans g1
    have hS := (HB.out.grew g1').cell 4
    refine wpAnyR_n1 (i := 5) rfl (by kernel_rfl) ?_
    intro K' hK
    rw [if_pos (by rfl)]
    simp only [List.getElem_toArray, List.getElem_cons_succ, List.getElem_cons_zero]
    go_wp2_with fail
    refine (equal_any A1 A c1 c k l.ext w1 w1.heap.size (Nat.le_refl _) (by omega) (by omega) HR1.out ((HR.out.keep (Nat.le_refl _) g1').mono2 g1'.size)).mono ?_
    rintro e w2 ⟨rfl, g2'⟩
    rw [HJ.out]
    have g2 : Grew w w2 := g1'.trans g2'
    go_wp2_with fail
    refine hK.out _ _ (.inr (fun _ => (HB.out.grew g2).cell 4)) ?_
    clear hK hS
    have hS := (HB.out.grew g2).cell 4
    refine wpAnyR_takeQ (i := 6) (v := ?_) (some 8) rfl rfl (by kernel_rfl) (by kernel_rfl) (by kernel_rfl) (by kernel_rfl) (fun _ _ _ h => h) (Or.inl ⟨by rfl, ?_⟩) ?_
    rotate_left
    focus (intro wS hSw; (try dsimp only at hSw); go_simp; (try with_reducible rfl); (try (first | (rw [if_pos (by omega)]; (try go_simp); (try with_reducible rfl)) | (rw [if_neg (by omega)]; (try go_simp); (try with_reducible rfl)))))
    try simp only [Act.put, zA, zB, zC]
    refine wpAnyR_takeQ (i := 7) (v := undef) (some 9) rfl rfl (by kernel_rfl) (by kernel_rfl) (by kernel_rfl) (by kernel_rfl) (fun _ _ _ h => h) (Or.inr ⟨by rfl, rfl⟩) ?_
    try simp only [Act.put, zA, zB, zC]
    refine wpAnyR_takeQ (i := 8) (v := undef) (some 10) rfl rfl (by kernel_rfl) (by kernel_rfl) (by kernel_rfl) (by kernel_rfl) (fun _ _ _ h => h) (Or.inr ⟨by rfl, rfl⟩) ?_
    try simp only [Act.put, zA, zB, zC]
    refine wpAnyR_takeQ (i := 9) (v := undef) (some 11) rfl rfl (by kernel_rfl) (by kernel_rfl) (by kernel_rfl) (by kernel_rfl) (fun _ _ _ h => h) (Or.inr ⟨by rfl, rfl⟩) ?_
    try simp only [Act.put, zA, zB, zC]
    refine wpAnyR_takeQ (i := 10) (v := ?_) (some 12) rfl rfl (by kernel_rfl) (by kernel_rfl) (by kernel_rfl) (by kernel_rfl) (fun _ _ _ h => h) (Or.inl ⟨by rfl, ?_⟩) ?_
    rotate_left
    focus (intro wS hSw; (try dsimp only at hSw); go_simp; (try with_reducible rfl); (try (first | (rw [if_pos (by omega)]; (try go_simp); (try with_reducible rfl)) | (rw [if_neg (by omega)]; (try go_simp); (try with_reducible rfl)))))
    try simp only [Act.put, zA, zB, zC]
    refine wpAnyR_takeQ (i := 11) (v := ?_) (some 1) rfl rfl (by kernel_rfl) (by kernel_rfl) (by kernel_rfl) (by kernel_rfl) (fun _ _ _ h => h) (Or.inl ⟨by rfl, ?_⟩) ?_
    rotate_left
    focus (intro wS hSw; (try dsimp only at hSw); go_simp; (try with_reducible rfl); (try (first | (rw [if_pos (by omega)]; (try go_simp); (try with_reducible rfl)) | (rw [if_neg (by omega)]; (try go_simp); (try with_reducible rfl)))))
    try simp only [Act.put, zA, zB, zC]
    refine wpAnyR_done (by kernel_rfl) ?_ _
    go_wp2_with fail
    go_ret
    exact ⟨ret_bool (by rw [HF.out]), g2⟩
  | true =>
    have HJ := Lib.hid hj
    have HF := Lib.hid (show jnB l = decide (seqS l.ext).Nodup from HE.out.trans (by rw [hj]; rfl))
    clear hj HE
    go_enter Try.func76, Try.ntmps76
    go_wp2_with fail
    refine wp_region_R [] (fun w' : World => w'.cell? ⟨g, 4, none⟩ = some (.slice A l.ext.length c)) (by kernel_rfl) ?_
    have hS := HB.out.drew.cell 4
    refine wpAnyR_takeQ (i := 0) (v := ?_) (some 2) rfl rfl (by kernel_rfl) (by kernel_rfl) (by kernel_rfl) (by kernel_rfl) (fun _ _ _ h => h) (Or.inl ⟨by rfl, ?_⟩) ?_
    rotate_left
    focus (intro wS hSw; (try dsimp only at hSw); go_simp; (try with_reducible rfl); (try (first | (rw [if_pos (by omega)]; (try go_simp); (try with_reducible rfl)) | (rw [if_neg (by omega)]; (try go_simp); (try with_reducible rfl)))))
    try simp only [Act.put, zA, zB, zC]
    refine wpAnyR_take (i := 1) (v := ?_) [2, 5, 6, 7, 8, 9, 10, 11] (some 3) rfl rfl (by kernel_rfl) (by kernel_rfl) (by kernel_rfl) (by kernel_rfl) (by kernel_rfl) (by kernel_rfl) (by kernel_rfl) (fun _ _ _ h => h) (Or.inl ⟨by rfl, ?_⟩) hS ?_
    rotate_left
    focus (intro wS hSw; (try dsimp only at hSw); go_simp; (try with_reducible rfl); (try (first | (rw [if_pos (by omega)]; (try go_simp); (try with_reducible rfl)) | (rw [if_neg (by omega)]; (try go_simp); (try with_reducible rfl)))))
    try simp only [Act.put, zA, zB, zC]
    refine wpAnyR_takeQ (i := 3) (v := ?_) (some 5) rfl rfl (by kernel_rfl) (by kernel_rfl) (by kernel_rfl) (by kernel_rfl) (fun _ _ _ h => h) (Or.inl ⟨by rfl, ?_⟩) ?_
    rotate_left
    focus (intro wS hSw; (try dsimp only at hSw); go_simp; (try with_reducible rfl); (try (first | (rw [if_pos (by omega)]; (try go_simp); (try with_reducible rfl)) | (rw [if_neg (by omega)]; (try go_simp); (try with_reducible rfl)))))
    try simp only [Act.put, zA, zB, zC]
    refine wpAnyR_take (i := 4) (v := ?_) [5, 6, 7, 8, 9, 10, 11] (some 6) rfl rfl (by kernel_rfl) (by kernel_rfl) (by kernel_rfl) (by kernel_rfl) (by kernel_rfl) (by kernel_rfl) (by kernel_rfl) (fun _ _ _ h => h) (Or.inl ⟨by rfl, ?_⟩) hS ?_
    rotate_left
    focus (intro wS hSw; (try dsimp only at hSw); go_simp; (try with_reducible rfl); (try (first | (rw [if_pos (by omega)]; (try go_simp); (try with_reducible rfl)) | (rw [if_neg (by omega)]; (try go_simp); (try with_reducible rfl)))))
    try simp only [Act.put, zA, zB, zC]
    refine wpAnyR_n1 (i := 2) rfl (by kernel_rfl) ?_
    intro K' hK
    rw [if_pos (by rfl)]
    simp only [List.getElem_toArray, List.getElem_cons_succ, List.getElem_cons_zero]
    go_wp2_with fail
    refine (join_val A c _ l.ext w.drew rfl (by omega) HR.out k HK.out).mono ?_
    rintro e w1 ⟨A1, c1, rfl, hr1, g1⟩
    have HR1 := Lib.hid hr1
    clear hr1
    go_wp2_with fail
    refine hK.out _ _ (.inr (fun _ => (HB.out.drew.grew g1).cell 4)) ?_
    clear hK hS
    have g1' : Grew w w1 := (Grew.refl w).drew.trans g1
    have hS := (HB.out.grew g1').cell 4
    refine wpAnyR_n1 (i := 5) rfl (by kernel_rfl) ?_
    intro K' hK
    rw [if_pos (by rfl)]
    simp only [List.getElem_toArray, List.getElem_cons_succ, List.getElem_cons_zero]
    go_wp2_with fail
    refine (equal_any A1 A c1 c k l.ext w1 w1.heap.size (Nat.le_refl _) (by omega) (by omega) HR1.out ((HR.out.keep (Nat.le_refl _) g1').mono2 g1'.size)).mono ?_
    rintro e w2 ⟨rfl, g2'⟩
    rw [HJ.out]
    have g2 : Grew w w2 := g1'.trans g2'
    go_wp2_with fail
    refine hK.out _ _ (.inr (fun _ => (HB.out.grew g2).cell 4)) ?_
    clear hK hS
    have hS := (HB.out.grew g2).cell 4
    refine wpAnyR_takeQ (i := 6) (v := ?_) (some 8) rfl rfl (by kernel_rfl) (by kernel_rfl) (by kernel_rfl) (by kernel_rfl) (fun _ _ _ h => h) (Or.inl ⟨by rfl, ?_⟩) ?_
    rotate_left
    focus (intro wS hSw; (try dsimp only at hSw); go_simp; (try with_reducible rfl); (try (first | (rw [if_pos (by omega)]; (try go_simp); (try with_reducible rfl)) | (rw [if_neg (by omega)]; (try go_simp); (try with_reducible rfl)))))
    try simp only [Act.put, zA, zB, zC]
    refine wpAnyR_takeQ (i := 7) (v := ?_) (some 9) rfl rfl (by kernel_rfl) (by kernel_rfl) (by kernel_rfl) (by kernel_rfl) (fun _ _ _ h => h) (Or.inl ⟨by rfl, ?_⟩) ?_
    rotate_left
    focus (intro wS hSw; (try dsimp only at hSw); go_simp; (try with_reducible rfl); (try (first | (rw [if_pos (by omega)]; (try go_simp); (try with_reducible rfl)) | (rw [if_neg (by omega)]; (try go_simp); (try with_reducible rfl)))))
    try simp only [Act.put, zA, zB, zC]
    refine wpAnyR_take (i := 8) (v := ?_) [9, 10, 11] (some 10) rfl rfl (by kernel_rfl) (by kernel_rfl) (by kernel_rfl) (by kernel_rfl) (by kernel_rfl) (by kernel_rfl) (by kernel_rfl) (fun _ _ _ h => h) (Or.inl ⟨by rfl, ?_⟩) hS ?_
    rotate_left
    focus (intro wS hSw; (try dsimp only at hSw); go_simp; (try with_reducible rfl); (try (first | (rw [if_pos (by omega)]; (try go_simp); (try with_reducible rfl)) | (rw [if_neg (by omega)]; (try go_simp); (try with_reducible rfl)))))
    try simp only [Act.put, zA, zB, zC]
    refine wpAnyR_n1 (i := 9) rfl (by kernel_rfl) ?_
    intro K' hK
    rw [if_pos (by rfl)]
    simp only [List.getElem_toArray, List.getElem_cons_succ, List.getElem_cons_zero]
    go_wp2_with fail
    refine (disjoint_val rfl (by omega) ((HR.out.keep (Nat.le_refl _) g2).mono2 g2.size) _ rfl).mono ?_
    rintro e w3 ⟨rfl, g3⟩
    have HG3 := Lib.hid (g2.trans g3)
    clear g3
    go_wp2_with fail
    refine hK.out _ _ (.inr (fun _ => (HB.out.grew HG3.out).cell 4)) ?_
    clear hK
    refine wpAnyR_takeQ (i := 10) (v := ?_) (some 12) rfl rfl (by kernel_rfl) (by kernel_rfl) (by kernel_rfl) (by kernel_rfl) (fun _ _ _ h => h) (Or.inl ⟨by rfl, ?_⟩) ?_
    rotate_left
    focus (intro wS hSw; (try dsimp only at hSw); go_simp; (try with_reducible rfl); (try (first | (rw [if_pos (by omega)]; (try go_simp); (try with_reducible rfl)) | (rw [if_neg (by omega)]; (try go_simp); (try with_reducible rfl)))))
    try simp only [Act.put, zA, zB, zC]
    refine wpAnyR_takeQ (i := 11) (v := ?_) (some 1) rfl rfl (by kernel_rfl) (by kernel_rfl) (by kernel_rfl) (by kernel_rfl) (fun _ _ _ h => h) (Or.inl ⟨by rfl, ?_⟩) ?_
    rotate_left
    focus (intro wS hSw; (try dsimp only at hSw); go_simp; (try with_reducible rfl); (try (first | (rw [if_pos (by omega)]; (try go_simp); (try with_reducible rfl)) | (rw [if_neg (by omega)]; (try go_simp); (try with_reducible rfl)))))
    try simp only [Act.put, zA, zB, zC]
    refine wpAnyR_done (by kernel_rfl) ?_ _
    go_wp2_with fail
    go_ret
    exact ⟨ret_bool (by rw [HF.out]), HG3.out⟩
end
set_option maxRecDepth 100000 in
theorem bad1_any (t f n : Int) (g1 g2 : Nat) (w : World) (h1 : Blk w g1 3 #[.int .i64 (ttS t)]) (h2 : Blk w g2 3 #[.int .i64 t]) (hf : 0 ≤ f ∧ f ≤ 1000) (hn : 0 ≤ n ∧ n ≤ 1000) :
    Calls Try.prog 81 #[.agg #[.int .i64 f, .int .i64 n], .pointer (some ⟨g1, 0, none⟩), .pointer (some ⟨g2, 0, none⟩)] w fun e w' => e = .returned (.bool (badR t (f, n))) ∧ Grew w w' := by
  obtain ⟨hf0, hf1⟩ := hf
  obtain ⟨hn0, hn1⟩ := hn
  have hl1 := h1.lt
  have hl2 := h2.lt
  have x1 := h1.cell 0
  have x2 := h2.cell 0
  have HB := Lib.hid (show badR t (f, n) = (decide (f < ttS t) || decide (t < f + n)) from rfl)
  clear h1 h2
  generalize ttS t = tt at *
  by_cases a1 : f < tt
  · have HF := Lib.hid (show badR t (f, n) = true from HB.out.trans (by simp [a1]))
    clear HB
    go_enter Try.func81, Try.ntmps81
    go_wp2_with fail
    go_ret
    exact ⟨ret_bool (by rw [HF.out]), by (repeat' first | (with_reducible exact Grew.refl _) | (with_reducible assumption) | (with_reducible refine Grew.alloc ?_ _) | (with_reducible refine Grew.drew ?_) | (with_reducible refine Grew.drewN ?_ _) | (with_reducible refine Grew.setRow ?_ (by first | (simp; done) | (simp; omega) | omega) _) | (with_reducible refine Grew.setCell ?_ (by first | (simp; done) | (simp; omega) | omega) _) | ((with_reducible apply Grew.trans); rotate_left; (with_reducible assumption)) | ((with_reducible apply Grew.turn); rotate_left; (with_reducible assumption); (focus (intro i hi; first | omega | (simp at hi; omega)))) | fail)⟩
  · by_cases a2 : t < f + n
    · have HF := Lib.hid (show badR t (f, n) = true from HB.out.trans (by simp [a1, a2]))
      clear HB
      go_enter Try.func81, Try.ntmps81
      go_wp2_with fail
      go_ret
      exact ⟨ret_bool (by rw [HF.out]), by (repeat' first | (with_reducible exact Grew.refl _) | (with_reducible assumption) | (with_reducible refine Grew.alloc ?_ _) | (with_reducible refine Grew.drew ?_) | (with_reducible refine Grew.drewN ?_ _) | (with_reducible refine Grew.setRow ?_ (by first | (simp; done) | (simp; omega) | omega) _) | (with_reducible refine Grew.setCell ?_ (by first | (simp; done) | (simp; omega) | omega) _) | ((with_reducible apply Grew.trans); rotate_left; (with_reducible assumption)) | ((with_reducible apply Grew.turn); rotate_left; (with_reducible assumption); (focus (intro i hi; first | omega | (simp at hi; omega)))) | fail)⟩
    · have HF := Lib.hid (show badR t (f, n) = false from HB.out.trans (by simp [a1, a2]))
      clear HB
      go_enter Try.func81, Try.ntmps81
      go_wp2_with fail
      go_ret
      exact ⟨ret_bool (by rw [HF.out]), by (repeat' first | (with_reducible exact Grew.refl _) | (with_reducible assumption) | (with_reducible refine Grew.alloc ?_ _) | (with_reducible refine Grew.drew ?_) | (with_reducible refine Grew.drewN ?_ _) | (with_reducible refine Grew.setRow ?_ (by first | (simp; done) | (simp; omega) | omega) _) | (with_reducible refine Grew.setCell ?_ (by first | (simp; done) | (simp; omega) | omega) _) | ((with_reducible apply Grew.trans); rotate_left; (with_reducible assumption)) | ((with_reducible apply Grew.turn); rotate_left; (with_reducible assumption); (focus (intro i hi; first | omega | (simp at hi; omega)))) | fail)⟩
def IdxR (l : List (Int × Int)) (t : Int) (e : Ending) : Prop := (∃ i : Nat, e = .returned (.int .i64 (i : Int)) ∧ i < l.length ∧ l.any (badR t) = true) ∨ (e = .returned (.int .i64 (-1)) ∧ l.any (badR t) = false)
section
variable (A : Option Addr) (c : Nat) (l : List (Int × Int)) (t : Int) (g1 g2 : Nat) (w : World)
set_option maxRecDepth 100000 in
set_option maxHeartbeats 1000000 in
theorem idxf_any (h1 : Blk w g1 3 #[.int .i64 (ttS t)]) (h2 : Blk w g2 3 #[.int .i64 t]) (hr : RunsAt w w.heap.size A l) (hl : l.length ≤ 100000) (hs : ∀ r ∈ l, 0 ≤ r.1 ∧ 0 ≤ r.2 ∧ r.1 + r.2 ≤ 128) :
    Calls Try.prog 104 #[.slice A l.length c, .func (.func 81) #[] #[.pointer (some ⟨g1, 0, none⟩), .pointer (some ⟨g2, 0, none⟩)]] w fun e w' => IdxR l t e ∧ Grew w w' := by
  have HR := Lib.hid hr
  have HS := Lib.hid hs
  have H1 := Lib.hid h1
  have H2 := Lib.hid h2
  clear hr hs h1 h2
  go_enter Try.func104, Try.ntmps104
  go_wp2_with fail
  go_loopg [8] l.length (fun gk i wr => ∃ k : Nat, k ≤ l.length ∧ gk = l.length - k ∧ i = .int .i64 k ∧ (∀ j (hj : j < l.length), j < k → badR t l[j] = false) ∧ Grew w wr)
  case atStart => exact ⟨0, by omega, by omega, rfl, fun j _ h => by omega, Grew.refl _⟩
  case round =>
    obtain ⟨k, hk, hgk, rfl, hall, hg⟩ := hrel
    have HGK := Lib.hid hgk
    have HA := Lib.hid hall
    have HG := Lib.hid hg
    clear hgk hall
    by_cases hlt : k < l.length
    · obtain ⟨b, off, f, n, rfl, hb, hv, hok, c0, c1⟩ := (HR.out.keep (Nat.le_refl _) hg).at_ hlt
      have hsm := HS.out l[k] (List.getElem_mem hlt)
      rw [hv] at hsm
      simp only at hsm
      have HV := Lib.hid hv
      have HB := Lib.hid (bad1_any t f n g1 g2 wr (H1.out.grew hg) (H2.out.grew hg) (by omega) (by omega))
      clear hv hok
      go_wp2_with fail
      refine HB.out.mono ?_
      rintro e w3 ⟨rfl, g3⟩
      cases hbd : badR t (f, n) with
      | true =>
        have HIN := Lib.hid (show l.any (badR t) = true from by rw [List.any_eq_true]; exact ⟨l[k], List.getElem_mem hlt, by rw [HV.out]; exact hbd⟩)
        clear hbd
        go_wp2_with fail
        go_ret
        exact ⟨.inl ⟨k, rfl, hlt, HIN.out⟩, HG.out.trans g3⟩
      | false =>
        have HN := Lib.hid (show ∀ j (hj : j < l.length), j < k + 1 → badR t l[j] = false from fun j hj hjk => by
          by_cases hjk' : j = k
          · subst hjk'; rw [HV.out]; exact hbd
          · exact HA.out j hj (by omega))
        clear hbd
        go_wp2_with fail
        go_roundg (l.length - (k + 1))
        case measure => rw [HGK.out]; omega
        case rel => exact ⟨k + 1, by omega, by omega, by go_num, HN.out, HG.out.trans g3⟩
    · have HN := Lib.hid (show l.any (badR t) = false from by
        rw [List.any_eq_false]
        intro x hx
        obtain ⟨j, hj, rfl⟩ := List.getElem_of_mem hx
        rw [HA.out j hj (by omega)]
        simp)
      go_wp2_with fail
      go_ret
      exact ⟨.inr ⟨rfl, HN.out⟩, HG.out⟩
set_option maxRecDepth 100000 in
theorem hasf_any (h1 : Blk w g1 3 #[.int .i64 (ttS t)]) (h2 : Blk w g2 3 #[.int .i64 t]) (hr : RunsAt w w.heap.size A l) (hl : l.length ≤ 100000) (hs : ∀ r ∈ l, 0 ≤ r.1 ∧ 0 ≤ r.2 ∧ r.1 + r.2 ≤ 128) :
    Calls Try.prog 80 #[.slice A l.length c, .func (.func 81) #[] #[.pointer (some ⟨g1, 0, none⟩), .pointer (some ⟨g2, 0, none⟩)]] w fun e w' => e = .returned (.bool (l.any (badR t))) ∧ Grew w w' := by
  have HC := Lib.hid (idxf_any A c l t g1 g2 w h1 h2 hr hl hs)
  clear h1 h2 hr hs
  go_enter Try.func80, Try.ntmps80
  go_wp2_with fail
  refine HC.out.mono ?_
  rintro e w1 ⟨hi, g1⟩
  rcases hi with ⟨i, rfl, hil, he⟩ | ⟨rfl, he⟩
  · have HE := Lib.hid he
    have hi0 : (0 : Int) ≤ (i : Int) := by omega
    clear he
    go_wp2_with fail
    go_ret
    exact ⟨ret_bool (by rw [HE.out]), g1⟩
  · have HE := Lib.hid he
    clear he
    go_wp2_with fail
    go_ret
    exact ⟨ret_bool (by rw [HE.out]), g1⟩
end
set_option maxRecDepth 100000 in
theorem cond5_any (A : Option Addr) (c : Nat) (l : Lab) (t : Int) (g g1 g2 : Nat) (w : World) (h : LabAt w A c l) (hs : l.ext.length ≤ 100000) (hj : jnB l = true) (hb : Blk w g 24 #[.int .i64 l.id, .int .i64 l.unit, .string l.name, .string l.note, .slice A l.ext.length c]) (h1 : Blk w g1 3 #[.int .i64 (ttS t)]) (h2 : Blk w g2 3 #[.int .i64 t]) :
    Calls Try.prog 79 #[.pointer (some ⟨g, 0, none⟩), .pointer (some ⟨g1, 0, none⟩), .pointer (some ⟨g2, 0, none⟩)] w fun e w' => e = .returned (.bool (inB l t)) ∧ Grew w w' := by
  have hl := hb.lt
  have x4 := hb.cell 4
  have HC := Lib.hid (hasf_any A c l.ext t g1 g2 w h1 h2 h.runs hs (jn_bd l hj))
  have HE := Lib.hid (show inB l t = !(l.ext.any (badR t)) from rfl)
  clear h hj hb h1 h2
  go_enter Try.func79, Try.ntmps79
  go_wp2_with fail
  refine HC.out.mono ?_
  rintro e w1 ⟨rfl, g1⟩
  cases hx : l.ext.any (badR t) with
  | true =>
    have HX := Lib.hid hx
    clear hx
    go_wp2_with fail
    go_ret
    exact ⟨ret_bool (by rw [HE.out, HX.out]; rfl), g1⟩
  | false =>
    have HX := Lib.hid hx
    clear hx
    go_wp2_with fail
    go_ret
    exact ⟨ret_bool (by rw [HE.out, HX.out]; rfl), g1⟩
end Go.Proofs.Ytnlaogneceanoaa
