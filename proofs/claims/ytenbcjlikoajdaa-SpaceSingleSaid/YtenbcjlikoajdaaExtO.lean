/- Plain laws of chapter 5: the sequence of a list decides its joined form, its normal form and its indices. -/
import Derived.Test.YtenbcjlikoajdaaExtN
namespace Go.Proofs.Ytenbcjlikoajdaa
set_option linter.unusedVariables false
set_option linter.unusedSimpArgs false
set_option linter.unusedSectionVars false
open Go.RowKit
theorem last_cases (acc : List (Nat × Nat)) : acc = [] ∨ ∃ i x, acc = i ++ [x] := by
  rcases List.eq_nil_or_concat acc with h | ⟨i, x, h⟩
  · exact .inl h
  · exact .inr ⟨i, x, by rw [h, List.concat_eq_append]⟩
theorem last_getD (i : List (Nat × Nat)) (x : Nat × Nat) : (i ++ [x]).getD ((i ++ [x]).length - 1) (0, 0) = x := by simp [List.getD]
theorem last_set (i : List (Nat × Nat)) (x y : Nat × Nat) : (i ++ [x]).set ((i ++ [x]).length - 1) y = i ++ [y] := by
  rw [List.set_append_right _ _ (by simp)]
  simp
def stepT (acc : List (Nat × Nat)) (t : Nat) : List (Nat × Nat) := stepJ acc (t, 1)
theorem stepT_nil (t : Nat) : stepT [] t = [(t, 1)] := by
  unfold stepT stepJ
  rw [if_neg (by simp), if_neg (fun h => h.1 rfl)]
  rfl
theorem stepJ_snoc (i : List (Nat × Nat)) (x r : Nat × Nat) (hr : r.2 ≠ 0) : stepJ (i ++ [x]) r = if x.1 + x.2 = r.1 then i ++ [(x.1, x.2 + r.2)] else i ++ [x] ++ [r] := by
  unfold stepJ
  rw [if_neg hr, last_getD, last_set]
  by_cases h : x.1 + x.2 = r.1
  · rw [if_pos ⟨by simp, h⟩, if_pos h]
  · rw [if_neg (fun h' => h h'.2), if_neg h]
theorem stepT_snoc (i : List (Nat × Nat)) (x : Nat × Nat) (t : Nat) : stepT (i ++ [x]) t = if x.1 + x.2 = t then i ++ [(x.1, x.2 + 1)] else i ++ [x] ++ [(t, 1)] := by
  unfold stepT
  rw [stepJ_snoc _ _ _ (by simp)]
theorem stepJ_zero (acc : List (Nat × Nat)) (r : Nat × Nat) (h : r.2 = 0) : stepJ acc r = acc := by unfold stepJ; rw [if_pos h]
theorem stepJ_succ (acc : List (Nat × Nat)) (lo n : Nat) : stepJ acc (lo, n + 1) = stepT (stepJ acc (lo, n)) (lo + n) := by
  rcases Nat.eq_zero_or_pos n with rfl | hn
  · rw [stepJ_zero acc (lo, 0) rfl]; rfl
  · rcases last_cases acc with rfl | ⟨i, x, rfl⟩
    · have e1 : stepJ [] (lo, n + 1) = [(lo, n + 1)] := by
        unfold stepJ; rw [if_neg (by simp), if_neg (fun h => h.1 rfl)]; rfl
      have e2 : stepJ [] (lo, n) = [] ++ [(lo, n)] := by
        unfold stepJ; rw [if_neg (by simp; omega), if_neg (fun h => h.1 rfl)]
      rw [e1, e2, stepT_snoc, if_pos rfl]
      rfl
    · rw [stepJ_snoc i x (lo, n + 1) (by simp), stepJ_snoc i x (lo, n) (by simp; omega)]
      by_cases h : x.1 + x.2 = lo
      · rw [if_pos h, if_pos h, stepT_snoc, if_pos (by simp only []; omega)]
        rfl
      · rw [if_neg h, if_neg h, stepT_snoc, if_pos rfl]
def joinT (s : List Nat) : List (Nat × Nat) := s.foldl stepT []
def seqN (r : Nat × Nat) : List Nat := (List.range r.2).map fun k => r.1 + k
theorem seqN_succ (lo n : Nat) : seqN (lo, n + 1) = seqN (lo, n) ++ [lo + n] := by simp [seqN, List.range_succ]
theorem stepJ_seq (acc : List (Nat × Nat)) (lo n : Nat) : stepJ acc (lo, n) = (seqN (lo, n)).foldl stepT acc := by
  induction n with
  | zero => rw [stepJ_zero acc (lo, 0) rfl]; rfl
  | succ n ih => rw [stepJ_succ, ih, seqN_succ, List.foldl_append]; rfl
/-- The sequence of a list. -/
def seqS (l : List (Int × Int)) : List Nat := l.flatMap fun r => seqN (clipS r)
theorem seqS_cons (r : Int × Int) (l : List (Int × Int)) : seqS (r :: l) = seqN (clipS r) ++ seqS l := rfl
theorem seqS_append (a b : List (Int × Int)) : seqS (a ++ b) = seqS a ++ seqS b := by simp [seqS]
theorem joinS_seq (l : List (Int × Int)) : joinS l = joinT (seqS l) := by
  have key : ∀ (l : List (Int × Int)) (acc : List (Nat × Nat)), l.foldl (fun acc x => stepJ acc (clipS x)) acc = (seqS l).foldl stepT acc := by
    intro l
    induction l with
    | nil => intro acc; rfl
    | cons r l ih => intro acc; rw [List.foldl_cons, ih, seqS_cons, List.foldl_append, ← stepJ_seq]
  exact key l []
theorem seqN_len (r : Nat × Nat) : (seqN r).length = r.2 := by simp [seqN]
theorem seqS_len (l : List (Int × Int)) : (seqS l).length = sizeS l := by
  induction l with
  | nil => rfl
  | cons r l ih => rw [seqS_cons, List.length_append, ih, seqN_len, sizeS_cons]
theorem mem_seqN (r : Nat × Nat) (t : Nat) : t ∈ seqN r ↔ r.1 ≤ t ∧ t < r.1 + r.2 := by
  simp only [seqN, List.mem_map, List.mem_range]
  constructor
  · rintro ⟨k, hk, rfl⟩; omega
  · rintro ⟨h1, h2⟩; exact ⟨t - r.1, by omega, by omega⟩
theorem mem_seqS (l : List (Int × Int)) (t : Nat) : t ∈ seqS l ↔ memS l t = true := by
  simp only [seqS, List.mem_flatMap, memS, List.any_eq_true, mem_seqN, inS, decide_eq_true_eq]
theorem seqS_lt (l : List (Int × Int)) : ∀ t ∈ seqS l, t < 128 := by
  intro t ht
  simp only [seqS, List.mem_flatMap, mem_seqN] at ht
  obtain ⟨r, _, h1, h2⟩ := ht
  have := clipS_le r
  omega
theorem memS_lt (l : List (Int × Int)) (t : Nat) (h : memS l t = true) : t < 128 := seqS_lt l t ((mem_seqS l t).2 h)
theorem clipS_nat (a b : Nat) (h : a + b ≤ 128) (hb : 0 < b) : clipS ((a : Int), (b : Int)) = (a, b) := by
  unfold clipS
  simp only []
  rw [if_neg (by omega), if_neg (by omega)]
  split
  · simp
  · exact Prod.ext (by simp) (by simp; omega)
theorem seqN_clip (a b : Nat) (h : a + b ≤ 128) : seqN (clipS ((a : Int), (b : Int))) = seqN (a, b) := by
  rcases Nat.eq_zero_or_pos b with rfl | hb
  · have : (clipS ((a : Int), ((0 : Nat) : Int))).2 = 0 := by unfold clipS; rw [if_pos (by simp)]
    unfold seqN
    rw [this]
    rfl
  · rw [clipS_nat a b h hb]
def seqL (l : List (Nat × Nat)) : List Nat := l.flatMap seqN
theorem seqS_ints (l : List (Nat × Nat)) (h : ∀ r ∈ l, r.1 + r.2 ≤ 128) : seqS (ints l) = seqL l := by
  induction l with
  | nil => rfl
  | cons r l ih =>
    show seqS (((r.1 : Int), (r.2 : Int)) :: ints l) = _
    rw [seqS_cons, seqN_clip _ _ (h r (by simp)), ih (fun x hx => h x (List.mem_cons_of_mem _ hx))]
    rfl
theorem seqL_append (a b : List (Nat × Nat)) : seqL (a ++ b) = seqL a ++ seqL b := by simp [seqL]
theorem seqL_one (r : Nat × Nat) : seqL [r] = seqN r := by simp [seqL]
theorem seqL_stepT (acc : List (Nat × Nat)) (t : Nat) : seqL (stepT acc t) = seqL acc ++ [t] := by
  rcases last_cases acc with rfl | ⟨i, x, rfl⟩
  · rw [stepT_nil]; simp [seqL, seqN]
  · rw [stepT_snoc]
    split
    · rename_i h
      rw [seqL_append, seqL_append, seqL_one, seqL_one, seqN_succ, ← List.append_assoc, h]
    · rw [seqL_append]
      simp [seqL, seqN]
theorem seqL_foldT (s : List Nat) : ∀ acc, seqL (s.foldl stepT acc) = seqL acc ++ s := by
  induction s with
  | nil => intro acc; simp
  | cons t s ih => intro acc; rw [List.foldl_cons, ih, seqL_stepT, List.append_assoc]; rfl
theorem seqL_joinT (s : List Nat) : seqL (joinT s) = s := by unfold joinT; rw [seqL_foldT]; rfl
theorem seqS_joinS (l : List (Int × Int)) : seqS (ints (joinS l)) = seqS l := by
  rw [seqS_ints _ (joinS_bd l), joinS_seq, seqL_joinT]
theorem normTo_end (S : Nat → Bool) (k : Nat) : normTo S k = [] ∧ (0 < k → S (k - 1) = false) ∨ ∃ i x, normTo S k = i ++ [x] ∧ (x.1 + x.2 = k ↔ 0 < k ∧ S (k - 1) = true) := by
  induction k with
  | zero => exact .inl ⟨rfl, fun h => absurd h (by omega)⟩
  | succ k ih =>
    rw [normTo, Nat.add_sub_cancel]
    cases hS : S k with
    | false =>
      rw [stepN, if_pos hS]
      rcases ih with ⟨h, _⟩ | ⟨i, x, h, _⟩
      · exact .inl ⟨h, fun _ => rfl⟩
      · refine .inr ⟨i, x, h, ?_⟩
        have := normTo_bd S k x (by rw [h]; simp)
        constructor
        · intro h; omega
        · rintro ⟨_, h⟩; cases h
    | true =>
      rw [stepN, if_neg (by simp [hS])]
      by_cases hp : 0 < k ∧ S (k - 1) = true
      · rw [if_pos hp]
        rcases ih with ⟨h, h'⟩ | ⟨i, x, h, h'⟩
        · have := h' hp.1; rw [hp.2] at this; cases this
        · refine .inr ⟨i, (x.1, x.2 + 1), ?_, ?_⟩
          · rw [h, bump, last_getD, last_set]
          · have := h'.2 hp
            simp only []
            constructor
            · intro _; exact ⟨by omega, by first | rfl | trivial⟩
            · intro _; omega
      · rw [if_neg hp]
        exact .inr ⟨_, _, rfl, ⟨fun _ => ⟨by omega, by first | rfl | trivial⟩, fun _ => by simp⟩⟩
theorem normTo_joinT (S : Nat → Bool) (k : Nat) : normTo S k = joinT ((List.range k).filter S) := by
  induction k with
  | zero => rfl
  | succ k ih =>
    rw [normTo, List.range_succ, List.filter_append]
    unfold joinT at ih ⊢
    rw [List.foldl_append, ← ih]
    cases hS : S k with
    | false =>
      rw [stepN, if_pos hS, List.filter_cons_of_neg (by simp [hS])]
      rfl
    | true =>
      rw [stepN, if_neg (by simp [hS]), List.filter_cons_of_pos hS]
      show _ = stepT (normTo S k) k
      rcases normTo_end S k with ⟨h, h'⟩ | ⟨i, x, h, h'⟩
      · rw [if_neg (by rintro ⟨a, b⟩; rw [h' a] at b; cases b), h, stepT_nil]; rfl
      · by_cases hp : 0 < k ∧ S (k - 1) = true
        · rw [if_pos hp, h, stepT_snoc, if_pos (h'.2 hp), bump, last_getD, last_set]
        · rw [if_neg hp, h, stepT_snoc, if_neg (fun e => hp (h'.1 e))]
theorem normS_bd (S : Nat → Bool) : ∀ r ∈ normS S, r.1 + r.2 ≤ 128 := normTo_bd S 128
theorem normS_len (S : Nat → Bool) : (normS S).length ≤ 128 := normTo_len S 128
theorem seqS_normS (S : Nat → Bool) : seqS (ints (normS S)) = (List.range 128).filter S := by
  rw [seqS_ints _ (normS_bd S)]
  unfold normS
  rw [normTo_joinT, seqL_joinT]
theorem normS_congr {S T : Nat → Bool} (h : ∀ i, i < 128 → S i = T i) : normS S = normS T := normTo_congr 128 h
theorem memS_normS (S : Nat → Bool) (i : Nat) (hi : i < 128) : memS (ints (normS S)) i = S i := by
  rw [Bool.eq_iff_iff, ← mem_seqS, seqS_normS, List.mem_filter, List.mem_range]
  exact ⟨fun h => h.2, fun h => ⟨hi, h⟩⟩
theorem normS_norm (S : Nat → Bool) : normS (memS (ints (normS S))) = normS S := normS_congr fun i hi => memS_normS S i hi
theorem normS_inj {S T : Nat → Bool} (h : normS S = normS T) : ∀ i, i < 128 → S i = T i := fun i hi => by rw [← memS_normS S i hi, h, memS_normS T i hi]
theorem ints_inj {a b : List (Nat × Nat)} (h : ints a = ints b) : a = b := by
  unfold ints at h
  refine List.map_inj_right (fun x y hxy => ?_) |>.1 h
  injection hxy with h1 h2
  exact Prod.ext (by omega) (by omega)
theorem ints_append (a b : List (Nat × Nat)) : ints (a ++ b) = ints a ++ ints b := by simp [ints]
/-- The least index of a track, and the track at an index. -/
def findT (t : Int) : List Nat → Nat → Int × Bool
  | [], _ => (0, false)
  | x :: s, n => if (x : Int) = t then ((n : Int), true) else findT t s (n + 1)
theorem findT_append (t : Int) (s s' : List Nat) : ∀ n, findT t (s ++ s') n = if ∃ x ∈ s, (x : Int) = t then findT t s n else findT t s' (n + s.length) := by
  induction s with
  | nil => intro n; simp
  | cons x s ih =>
    intro n
    rw [List.cons_append, findT, findT]
    by_cases h : (x : Int) = t
    · rw [if_pos h, if_pos ⟨x, by simp, h⟩, if_pos h]
    · rw [if_neg h, if_neg h, ih]
      by_cases h2 : ∃ y ∈ s, (y : Int) = t
      · rw [if_pos h2, if_pos (by obtain ⟨y, hy, e⟩ := h2; exact ⟨y, List.mem_cons_of_mem _ hy, e⟩)]
      · rw [if_neg h2, if_neg (by
          rintro ⟨y, hy, e⟩
          rcases List.mem_cons.1 hy with rfl | hy
          · exact h e
          · exact h2 ⟨y, hy, e⟩), List.length_cons]
        congr 1
        omega
theorem findT_seqN (t : Int) (lo : Nat) : ∀ (n m : Nat), (lo : Int) ≤ t → t < (lo : Int) + n → findT t (seqN (lo, n)) m = ((m : Int) + t - lo, true) := by
  intro n
  induction n with
  | zero => intro m h1 h2; omega
  | succ n ih =>
    intro m h1 h2
    rw [seqN_succ, findT_append]
    by_cases h : t < (lo : Int) + n
    · rw [if_pos ⟨t.toNat, (mem_seqN _ _).2 (by simp only []; omega), by omega⟩, ih m h1 h]
    · rw [if_neg (by rintro ⟨x, hx, e⟩; have := (mem_seqN _ _).1 hx; simp only [] at this; omega), seqN_len]
      simp only [findT]
      rw [if_pos (by omega)]
      exact Prod.ext (by simp only []; omega) rfl
theorem idxS_find (t : Int) (l : List (Int × Int)) : ∀ n, idxS t l n = findT t (seqS l) n := by
  induction l with
  | nil => intro n; rfl
  | cons r l ih =>
    intro n
    rw [idxS, seqS_cons, findT_append]
    by_cases h : ((clipS r).1 : Int) ≤ t ∧ t < ((clipS r).1 : Int) + (clipS r).2
    · rw [if_pos h, if_pos ⟨t.toNat, (mem_seqN _ _).2 (by omega), by omega⟩, findT_seqN t _ _ n h.1 h.2]
    · rw [if_neg h, if_neg (by rintro ⟨x, hx, e⟩; have := (mem_seqN _ _).1 hx; omega), ih, seqN_len]
def pickT (s : List Nat) (i : Nat) : Int × Bool := if i < s.length then ((s.getD i 0 : Nat), true) else (0, false)
theorem atS_pick (l : List (Int × Int)) : ∀ i : Nat, atS l i = pickT (seqS l) i := by
  induction l with
  | nil => intro i; rfl
  | cons r l ih =>
    intro i
    rw [atS, seqS_cons]
    unfold pickT
    have hln := seqN_len (clipS r)
    by_cases h : (i : Int) < ((clipS r).2 : Int)
    · have h' : i < (clipS r).2 := by omega
      rw [if_pos h, if_pos (by rw [List.length_append]; omega)]
      refine Prod.ext ?_ rfl
      simp only [List.getD]
      rw [List.getElem?_append_left (by omega)]
      simp [seqN, h']
    · rw [if_neg h, show (i : Int) - ((clipS r).2 : Int) = ((i - (clipS r).2 : Nat) : Int) from by omega, ih]
      unfold pickT
      rw [List.length_append, hln]
      by_cases h2 : i - (clipS r).2 < (seqS l).length
      · rw [if_pos h2, if_pos (by omega)]
        simp only [List.getD]
        rw [List.getElem?_append_right (by omega), hln]
      · rw [if_neg h2, if_neg (by omega)]
/-- Counting. -/
theorem count_or (p q : Nat → Bool) (l : List Nat) : (l.filter fun i => p i || q i).length + (l.filter fun i => p i && q i).length = (l.filter p).length + (l.filter q).length := by
  induction l with
  | nil => rfl
  | cons x l ih =>
    simp only [List.filter_cons]
    cases p x <;> cases q x <;> simp <;> omega
theorem count_parts (p q : Nat → Bool) (l : List Nat) : (l.filter fun i => p i && q i).length + (l.filter fun i => p i && !q i).length + (l.filter fun i => q i && !p i).length = (l.filter fun i => p i || q i).length := by
  induction l with
  | nil => rfl
  | cons x l ih =>
    simp only [List.filter_cons]
    cases p x <;> cases q x <;> simp <;> omega
theorem count_cons (x : Nat) (s : List Nat) : ∀ n, ((List.range n).filter fun i => decide (i ∈ x :: s)).length = ((List.range n).filter fun i => decide (i ∈ s)).length + if x < n ∧ x ∉ s then 1 else 0 := by
  intro n
  induction n with
  | zero => simp
  | succ n ih =>
    rw [List.range_succ, List.filter_append, List.filter_append, List.length_append, List.length_append, ih]
    by_cases hx : x = n
    · subst hx
      by_cases hs : x ∈ s
      · simp [List.filter_cons, hs]
      · simp [List.filter_cons, hs]
    · have e : decide (n ∈ x :: s) = decide (n ∈ s) := by
        rw [decide_eq_decide, List.mem_cons]
        exact ⟨fun h => h.resolve_left (fun e => hx e.symm), Or.inr⟩
      have e2 : (x < n + 1 ∧ x ∉ s) = (x < n ∧ x ∉ s) := by
        rw [eq_iff_iff]
        exact ⟨fun h => ⟨by omega, h.2⟩, fun h => ⟨by omega, h.2⟩⟩
      have e3 : ([n].filter fun i => decide (i ∈ x :: s)) = [n].filter fun i => decide (i ∈ s) := by rw [List.filter_cons, List.filter_cons, e]; rfl
      simp only [e2]
      rw [e3]
      omega
theorem count_le (s : List Nat) (n : Nat) : ((List.range n).filter fun i => decide (i ∈ s)).length ≤ s.length := by
  induction s with
  | nil => simp
  | cons x s ih => rw [count_cons, List.length_cons]; split <;> omega
theorem count_nodup (s : List Nat) (n : Nat) (h : ∀ x ∈ s, x < n) : ((List.range n).filter fun i => decide (i ∈ s)).length = s.length ↔ s.Nodup := by
  induction s with
  | nil => simp
  | cons x s ih =>
    have ih' := ih (fun y hy => h y (List.mem_cons_of_mem _ hy))
    have hx := h x (by simp)
    have hle := count_le s n
    rw [count_cons, List.length_cons, List.nodup_cons]
    by_cases hs : x ∈ s
    · rw [if_neg (fun h => h.2 hs)]
      constructor
      · intro e; omega
      · intro e; exact absurd hs e.1
    · rw [if_pos ⟨hx, hs⟩]
      constructor
      · intro e; exact ⟨hs, ih'.1 (by omega)⟩
      · intro e; have := ih'.2 e.2; omega
theorem sizeS_normS (S : Nat → Bool) : sizeS (ints (normS S)) = ((List.range 128).filter S).length := by rw [← seqS_len, seqS_normS]
theorem disjS (l : List (Int × Int)) : sizeS l = sizeS (ints (normS (memS l))) ↔ (seqS l).Nodup := by
  rw [sizeS_normS, ← count_nodup (seqS l) 128 (seqS_lt l), seqS_len]
  have : (fun i => decide (i ∈ seqS l)) = memS l := by
    funext i
    rw [Bool.eq_iff_iff, decide_eq_true_eq, mem_seqS]
  rw [this]
  exact eq_comm
/-- The two parts of a list. -/
theorem seqN_take (lo n m : Nat) : (seqN (lo, n)).take m = seqN (lo, min m n) := by
  unfold seqN
  rw [← List.map_take, List.take_range]
theorem seqN_drop (lo n m : Nat) : (seqN (lo, n)).drop m = seqN (lo + min m n, n - min m n) := by
  unfold seqN
  apply List.ext_getElem?
  intro i
  simp only [List.getElem?_drop, List.getElem?_map, List.getElem?_range]
  by_cases h : m + i < n
  · rw [List.getElem?_range h, List.getElem?_range (by omega)]
    simp only [Option.map_some, Option.some.injEq]
    omega
  · rw [List.getElem?_eq_none (by simp; omega), List.getElem?_eq_none (by simp; omega)]
    rfl
theorem seq_cutA (l : List (Int × Int)) : ∀ n, seqS (ints (cutA l n)) = (seqS l).take n := by
  induction l with
  | nil => intro n; simp [cutA, ints, seqS]
  | cons r l ih =>
    intro n
    have hc := clipS_le r
    rw [cutA]
    show seqS ((_, _) :: ints _) = _
    rw [seqS_cons, seqN_clip _ _ (by simp only []; omega), ih, seqS_cons, List.take_append, seqN_len]
    congr 1
    rw [← seqN_take]
theorem seq_cutB (l : List (Int × Int)) : ∀ n, seqS (ints (cutB l n)) = (seqS l).drop n := by
  induction l with
  | nil => intro n; simp [cutB, ints, seqS]
  | cons r l ih =>
    intro n
    have hc := clipS_le r
    rw [cutB]
    show seqS ((_, _) :: ints _) = _
    rw [seqS_cons, seqN_clip _ _ (by simp only []; omega), ih, seqS_cons, List.drop_append, seqN_len]
    congr 1
    rw [← seqN_drop]
theorem join_parts (l : List (Int × Int)) (n : Nat) : joinS (ints (joinS (ints (cutA l n))) ++ ints (joinS (ints (cutB l n)))) = joinS l := by
  rw [joinS_seq, seqS_append, seqS_joinS, seqS_joinS, seq_cutA, seq_cutB, List.take_append_drop, ← joinS_seq]
end Go.Proofs.Ytenbcjlikoajdaa
