/- Chapter 6, plain: the best run, the runs by size, and what is taken from them. -/
import Derived.Test.YtenbcjlikoajdaaExtS
import Derived.Test.YtenbcjlikoajdaaExtO
namespace Go.Proofs.Ytenbcjlikoajdaa
set_option linter.unusedVariables false
set_option linter.unusedSimpArgs false
set_option linter.unusedSectionVars false
open Go.RowKit
def bestStep (n : Int) (b r : Nat × Nat) : Nat × Nat := if n ≤ (r.2 : Int) ∧ (b.2 = 0 ∨ r.2 < b.2) then r else b
def bestF (n : Int) (l : List (Nat × Nat)) : Nat × Nat := l.foldl (bestStep n) (0, 0)
theorem bestF_snoc (n : Int) (l : List (Nat × Nat)) (k : Nat) (h : k < l.length) : bestF n (l.take (k + 1)) = bestStep n (bestF n (l.take k)) l[k] := by
  unfold bestF; rw [List.take_succ_eq_append_getElem h, List.foldl_append]; rfl
theorem bestF_end (n : Int) (l : List (Nat × Nat)) (x : Nat × Nat) : bestF n (l ++ [x]) = bestStep n (bestF n l) x := by
  unfold bestF; rw [List.foldl_append]; rfl
theorem fold_inv {n : Int} (P : Nat × Nat → Prop) : ∀ (l : List (Nat × Nat)) (b : Nat × Nat), P b → (∀ r ∈ l, n ≤ (r.2 : Int) → P r) → P (l.foldl (bestStep n) b) := by
  intro l
  induction l with
  | nil => intro b hb _; exact hb
  | cons r l ih =>
    intro b hb h
    refine ih _ ?_ (fun x hx => h x (List.mem_cons_of_mem _ hx))
    unfold bestStep
    split
    · rename_i hc; exact h r (List.mem_cons_self ..) hc.1
    · exact hb
theorem bestF_inv {n : Int} (P : Nat × Nat → Prop) (l : List (Nat × Nat)) (h0 : P (0, 0)) (h : ∀ r ∈ l, n ≤ (r.2 : Int) → P r) : P (bestF n l) := fold_inv P l _ h0 h
theorem bestF_bd (n : Int) (l : List (Nat × Nat)) (m : Nat) (h : ∀ r ∈ l, r.1 + r.2 ≤ m) : (bestF n l).1 + (bestF n l).2 ≤ m :=
  bestF_inv (fun b => b.1 + b.2 ≤ m) l (Nat.zero_le _) (fun r hr _ => h r hr)
theorem bestF_mem (n : Int) (l : List (Nat × Nat)) : bestF n l = (0, 0) ∨ bestF n l ∈ l ∧ n ≤ ((bestF n l).2 : Int) :=
  bestF_inv (fun b => b = (0, 0) ∨ b ∈ l ∧ n ≤ (b.2 : Int)) l (.inl rfl) (fun r hr h => .inr ⟨hr, h⟩)
/-- The first tracks of the best run of a set. -/
def bestS (S : Nat → Bool) (n : Int) : (Int × Int) × Bool :=
  if n < 1 ∨ (bestF n (normS S)).2 = 0 then ((0, 0), false) else ((((bestF n (normS S)).1 : Int), n), true)
def cntL (l : List (Nat × Nat)) : Nat := (l.map (·.2)).sum
theorem cntL_append (a b : List (Nat × Nat)) : cntL (a ++ b) = cntL a + cntL b := by simp [cntL]
theorem cntL_one (x : Nat × Nat) : cntL [x] = x.2 := by simp [cntL]
theorem cntL_snoc (l : List (Nat × Nat)) (k : Nat) (h : k < l.length) : cntL (l.take (k + 1)) = cntL (l.take k) + l[k].2 := by
  rw [List.take_succ_eq_append_getElem h, cntL_append, cntL_one]
/-- What is taken from runs, one behind the other. -/
def takeR : List (Nat × Nat) → Nat → List (Nat × Nat)
  | [], _ => []
  | r :: l, n => if n = 0 then [] else (r.1, min r.2 n) :: takeR l (n - min r.2 n)
theorem takeR_end (x : Nat × Nat) : ∀ (l : List (Nat × Nat)) (n : Nat), takeR (l ++ [x]) n = takeR l n ++ (if n - cntL l = 0 then [] else [(x.1, min x.2 (n - cntL l))]) := by
  intro l
  induction l with
  | nil => intro n; show takeR [x] n = _; unfold takeR; by_cases h : n = 0 <;> simp [h, cntL, takeR]
  | cons r l ih =>
    intro n
    have e : cntL (r :: l) = r.2 + cntL l := by simp [cntL]
    show takeR (r :: (l ++ [x])) n = takeR (r :: l) n ++ _
    rw [takeR, takeR]
    by_cases h : n = 0
    · rw [if_pos h, if_pos h, if_pos (by omega)]; rfl
    · rw [if_neg h, if_neg h, ih, e, show n - min r.2 n - cntL l = n - (r.2 + cntL l) from by omega]; rfl
theorem takeR_snoc (l : List (Nat × Nat)) (k n : Nat) (h : k < l.length) : takeR (l.take (k + 1)) n = takeR (l.take k) n ++ (if n - cntL (l.take k) = 0 then [] else [(l[k].1, min l[k].2 (n - cntL (l.take k)))]) := by
  rw [List.take_succ_eq_append_getElem h, takeR_end]
theorem takeR_stop (b : List (Nat × Nat)) : ∀ (a : List (Nat × Nat)) (n : Nat), n - cntL a = 0 → takeR (a ++ b) n = takeR a n := by
  intro a
  induction a with
  | nil =>
    intro n h
    have hn : n = 0 := by simpa [cntL] using h
    subst hn
    cases b <;> simp [takeR]
  | cons r l ih =>
    intro n h
    have e : cntL (r :: l) = r.2 + cntL l := by simp [cntL]
    show takeR (r :: (l ++ b)) n = takeR (r :: l) n
    rw [takeR, takeR]
    by_cases h0 : n = 0
    · rw [if_pos h0, if_pos h0]
    · rw [if_neg h0, if_neg h0, ih _ (by omega)]
theorem takeR_bd (m : Nat) : ∀ (l : List (Nat × Nat)) (n : Nat), (∀ r ∈ l, r.1 + r.2 ≤ m) → ∀ r ∈ takeR l n, r.1 + r.2 ≤ m := by
  intro l
  induction l with
  | nil => intro n _ r hr; cases hr
  | cons x l ih =>
    intro n h r hr
    rw [takeR] at hr
    split at hr
    · cases hr
    · rcases List.mem_cons.1 hr with rfl | hr
      · have := h x (List.mem_cons_self ..); show x.1 + min x.2 n ≤ m; omega
      · exact ih _ (fun y hy => h y (List.mem_cons_of_mem _ hy)) r hr
theorem takeR_len : ∀ (l : List (Nat × Nat)) (n : Nat), (takeR l n).length ≤ l.length := by
  intro l
  induction l with
  | nil => intro n; exact Nat.zero_le _
  | cons x l ih =>
    intro n
    rw [takeR]
    split
    · exact Nat.zero_le _
    · rw [List.length_cons, List.length_cons]; have := ih (n - min x.2 n); omega
theorem normTo_asc (S : Nat → Bool) (k : Nat) : (normTo S k).Pairwise (fun a b => a.1 + a.2 < b.1) ∧ ∀ r ∈ normTo S k, 1 ≤ r.2 := by
  induction k with
  | zero => exact ⟨List.Pairwise.nil, fun r hr => by cases hr⟩
  | succ k ih =>
    show (stepN S (normTo S k) k).Pairwise _ ∧ ∀ r ∈ stepN S (normTo S k) k, _
    have hbd := normTo_bd S k
    unfold stepN
    split
    · exact ih
    · split
      · rename_i h1 h2
        rcases normTo_end S k with ⟨_, h⟩ | ⟨i, x, hx, _⟩
        · rw [h h2.1] at h2; cases h2.2
        · rw [hx] at ih ⊢
          have hb : bump (i ++ [x]) = i ++ [(x.1, x.2 + 1)] := by unfold bump; rw [last_getD, last_set]
          rw [hb]
          obtain ⟨ih1, ih2⟩ := ih
          rw [List.pairwise_append] at ih1 ⊢
          refine ⟨⟨ih1.1, List.pairwise_singleton _ _, fun a ha b hb => ?_⟩, fun r hr => ?_⟩
          · rw [List.mem_singleton.1 hb]; exact ih1.2.2 a ha x (List.mem_singleton.2 rfl)
          · rcases List.mem_append.1 hr with hr | hr
            · exact ih2 r (List.mem_append_left _ hr)
            · rw [List.mem_singleton.1 hr]; show 1 ≤ x.2 + 1; omega
      · rename_i h1 h2
        rcases normTo_end S k with ⟨h0, _⟩ | ⟨i, x, hx, hiff⟩
        · rw [h0]
          refine ⟨by rw [List.nil_append]; exact List.pairwise_singleton _ _, fun r hr => ?_⟩
          rw [List.nil_append] at hr
          rw [List.mem_singleton.1 hr]; exact Nat.le_refl _
        · rw [hx] at ih hbd ⊢
          obtain ⟨ih1, ih2⟩ := ih
          have hxb := hbd x (List.mem_append_right _ (List.mem_singleton.2 rfl))
          have hne : x.1 + x.2 ≠ k := fun e => h2 (hiff.1 e)
          refine ⟨List.pairwise_append.2 ⟨ih1, List.pairwise_singleton _ _, fun a ha b hb => ?_⟩, fun r hr => ?_⟩
          · rw [List.mem_singleton.1 hb]
            show a.1 + a.2 < k
            rcases List.mem_append.1 ha with ha | ha
            · have := (List.pairwise_append.1 ih1).2.2 a ha x (List.mem_singleton.2 rfl)
              omega
            · rw [List.mem_singleton.1 ha]; omega
          · rcases List.mem_append.1 hr with hr | hr
            · exact ih2 r hr
            · rw [List.mem_singleton.1 hr]; exact Nat.le_refl _
/-- The runs by decreasing size, and those of one size in their order. -/
def sortS (l : List (Nat × Nat)) : List (Nat × Nat) := (List.range 128).flatMap fun i => l.filter fun r => r.2 == 128 - i
theorem mem_sortS (l : List (Nat × Nat)) (h : ∀ r ∈ l, 1 ≤ r.2 ∧ r.2 ≤ 128) (r : Nat × Nat) : r ∈ sortS l ↔ r ∈ l := by
  unfold sortS
  rw [List.mem_flatMap]
  constructor
  · rintro ⟨i, _, hr⟩; exact (List.mem_filter.1 hr).1
  · intro hr
    have := h r hr
    exact ⟨128 - r.2, List.mem_range.2 (by omega), List.mem_filter.2 ⟨hr, by rw [beq_iff_eq]; omega⟩⟩
/-- Which run comes first. -/
def ltR (a b : Nat × Nat) : Prop := b.2 < a.2 ∨ a.2 = b.2 ∧ a.1 < b.1
theorem sortS_sorted (l : List (Nat × Nat)) (h : l.Pairwise (fun a b => a.1 < b.1)) : (sortS l).Pairwise ltR := by
  unfold sortS
  rw [List.flatMap_def, List.pairwise_flatten]
  refine ⟨fun x hx => ?_, ?_⟩
  · obtain ⟨i, _, rfl⟩ := List.mem_map.1 hx
    refine (List.Pairwise.imp_of_mem ?_ (h.filter _))
    intro a b ha hb hab
    have h1 := (List.mem_filter.1 ha).2
    have h2 := (List.mem_filter.1 hb).2
    rw [beq_iff_eq] at h1 h2
    exact .inr ⟨by omega, hab⟩
  · rw [List.pairwise_map]
    refine List.Pairwise.imp_of_mem ?_ (List.pairwise_lt_range (n := 128))
    intro i j hi hj hij a ha b hb
    have h1 := (List.mem_filter.1 ha).2
    have h2 := (List.mem_filter.1 hb).2
    rw [beq_iff_eq] at h1 h2
    have := List.mem_range.1 hi
    have := List.mem_range.1 hj
    exact .inl (by omega)
theorem ltR_asymm {a b : Nat × Nat} (h : ltR a b) (h' : ltR b a) : False := by
  unfold ltR at h h'; omega
theorem sorted_one : ∀ (a b : List (Nat × Nat)), a.Perm b → a.Pairwise ltR → b.Pairwise ltR → a = b := by
  intro a
  induction a with
  | nil => intro b hp _ _; exact hp.nil_eq
  | cons x a ih =>
    intro b hp ha hb
    cases b with
    | nil => exact absurd hp.length_eq (by simp)
    | cons y b =>
      have hxy : x = y := by
        have h1 : x ∈ y :: b := hp.subset (List.mem_cons_self ..)
        have h2 : y ∈ x :: a := hp.symm.subset (List.mem_cons_self ..)
        rcases List.mem_cons.1 h1 with h1 | h1
        · exact h1
        · rcases List.mem_cons.1 h2 with h2 | h2
          · exact h2.symm
          · exact (ltR_asymm ((List.pairwise_cons.1 ha).1 y h2) ((List.pairwise_cons.1 hb).1 x h1)).elim
      subst hxy
      rw [ih b ((List.perm_cons x).1 hp) (List.pairwise_cons.1 ha).2 (List.pairwise_cons.1 hb).2]
theorem nodup_asc {l : List (Nat × Nat)} (h : l.Pairwise (fun a b => a.1 < b.1)) : l.Nodup :=
  List.Pairwise.imp (fun hab e => by rw [e] at hab; omega) h
theorem sorted_nodup {l : List (Nat × Nat)} (h : l.Pairwise ltR) : l.Nodup :=
  List.Pairwise.imp (fun hab e => by rw [e] at hab; exact ltR_asymm hab hab) h
theorem sortS_perm (l : List (Nat × Nat)) (h : ∀ r ∈ l, 1 ≤ r.2 ∧ r.2 ≤ 128) (ha : l.Pairwise (fun a b => a.1 < b.1)) : l.Perm (sortS l) :=
  (List.perm_ext_iff_of_nodup (nodup_asc ha) (sorted_nodup (sortS_sorted l ha))).2 (fun r => (mem_sortS l h r).symm)
theorem normS_asc (S : Nat → Bool) : (normS S).Pairwise (fun a b => a.1 < b.1) :=
  List.Pairwise.imp (fun h => by omega) (normTo_asc S 128).1
theorem normS_cnt (S : Nat → Bool) : ∀ r ∈ normS S, 1 ≤ r.2 ∧ r.2 ≤ 128 := fun r hr => ⟨(normTo_asc S 128).2 r hr, by have := normS_bd S r hr; omega⟩
/-- A sorted order of the runs of a set is the one that is meant. -/
theorem sort_is (S : Nat → Bool) (d : List (Nat × Nat)) (hp : d.Perm (normS S)) (hs : ∀ i j (hi : i < d.length) (hj : j < d.length), i < j → ¬ ltR d[j] d[i]) : d = sortS (normS S) := by
  refine sorted_one _ _ (hp.trans (sortS_perm _ (normS_cnt S) (normS_asc S))) ?_ (sortS_sorted _ (normS_asc S))
  have hn : d.Nodup := (hp.nodup_iff).2 (nodup_asc (normS_asc S))
  have hd : d.Pairwise (fun a b => a.1 ≠ b.1) := by
    have h1 : (normS S).Pairwise (fun a b => a.1 ≠ b.1) := List.Pairwise.imp (fun h => by omega) (normS_asc S)
    exact (hp.pairwise_iff (fun {a b} h e => h e.symm)).2 h1
  rw [List.pairwise_iff_getElem] at hd ⊢
  intro i j hi hj hij
  have h1 := hd i j hi hj hij
  have h2 := hs i j hi hj hij
  unfold ltR at h2 ⊢
  omega
end Go.Proofs.Ytenbcjlikoajdaa
