/- Chapter 6, plain: what is allocated. -/
import Derived.Test.YtenbcjlikoajdaaSpcN
namespace Go.Proofs.Ytenbcjlikoajdaa
set_option linter.unusedVariables false
set_option linter.unusedSimpArgs false
set_option linter.unusedSectionVars false
open Go.RowKit
theorem takeR_cnt : ∀ (l : List (Nat × Nat)) (n : Nat), n ≤ cntL l → cntL (takeR l n) = n := by
  intro l
  induction l with
  | nil => intro n h; have h0 : n = 0 := by simpa [cntL] using h
           subst h0; rfl
  | cons r l ih =>
    intro n h
    have e : cntL (r :: l) = r.2 + cntL l := by simp [cntL]
    rw [takeR]
    split
    · rename_i h0; subst h0; rfl
    · have e2 : cntL ((r.1, min r.2 n) :: takeR l (n - min r.2 n)) = min r.2 n + cntL (takeR l (n - min r.2 n)) := by simp [cntL]
      rw [e2, ih _ (by omega)]
      omega
theorem takeR_pos : ∀ (l : List (Nat × Nat)) (n : Nat), (∀ r ∈ l, 1 ≤ r.2) → ∀ r ∈ takeR l n, 1 ≤ r.2 := by
  intro l
  induction l with
  | nil => intro n _ r hr; cases hr
  | cons x l ih =>
    intro n h r hr
    rw [takeR] at hr
    split at hr
    · cases hr
    · rcases List.mem_cons.1 hr with rfl | hr
      · have := h x (List.mem_cons_self ..); show 1 ≤ min x.2 n; omega
      · exact ih _ (fun y hy => h y (List.mem_cons_of_mem _ hy)) r hr
theorem seqN_sub (a b m : Nat) (h : m ≤ b) : (seqN (a, m)).Sublist (seqN (a, b)) := by
  have : seqN (a, m) = (seqN (a, b)).take m := by rw [seqN_take, Nat.min_eq_left h]
  rw [this]
  exact List.take_sublist _ _
theorem seqL_cons (r : Nat × Nat) (l : List (Nat × Nat)) : seqL (r :: l) = seqN r ++ seqL l := rfl
theorem takeR_sub : ∀ (l : List (Nat × Nat)) (n : Nat), (seqL (takeR l n)).Sublist (seqL l) := by
  intro l
  induction l with
  | nil => intro n; exact List.Sublist.refl _
  | cons r l ih =>
    intro n
    rw [takeR]
    split
    · exact List.nil_sublist _
    · rw [seqL_cons, seqL_cons]
      exact (seqN_sub r.1 r.2 _ (Nat.min_le_left _ _)).append (ih _)
theorem seqL_norm (S : Nat → Bool) : seqL (normS S) = (List.range 128).filter S := by rw [← seqS_ints _ (normS_bd S), seqS_normS]
theorem seqL_perm {a b : List (Nat × Nat)} (h : a.Perm b) : (seqL a).Perm (seqL b) := by unfold seqL; exact h.flatMap_right _
theorem sizeS_ints (l : List (Nat × Nat)) (h : ∀ r ∈ l, r.1 + r.2 ≤ 128) : sizeS (ints l) = cntL l := by
  rw [← seqS_len, seqS_ints l h]
  clear h
  induction l with
  | nil => rfl
  | cons r l ih => rw [seqL_cons, List.length_append, ih, seqN_len]; simp [cntL]
theorem normS_false {S : Nat → Bool} (h : ∀ i, i < 128 → S i = false) : normS S = [] := by
  have e : seqL (normS S) = [] := by
    rw [seqL_norm, List.filter_eq_nil_iff]
    intro i hi
    rw [h i (List.mem_range.1 hi)]; simp
  cases hN : normS S with
  | nil => rfl
  | cons r l =>
    rw [hN, seqL_cons] at e
    have h1 := (normS_cnt S r (by rw [hN]; exact List.mem_cons_self ..)).1
    have h2 := congrArg List.length e
    rw [List.length_append, seqN_len] at h2
    simp at h2
    omega
/-- The parts that are taken out of a set's runs are tracks of it, each once. -/
theorem part_ok (S : Nat → Bool) (x : List (Nat × Nat)) (hb : ∀ r ∈ x, r.1 + r.2 ≤ 128) (hs : (seqL x).Sublist (seqL (sortS (normS S)))) :
    (seqS (ints x)).Nodup ∧ ∀ i, memS (ints x) i = true → S i = true := by
  have hp := seqL_perm (sortS_perm _ (normS_cnt S) (normS_asc S))
  rw [seqS_ints x hb]
  have hnd : (seqL (normS S)).Nodup := by rw [seqL_norm]; exact List.nodup_range.filter _
  refine ⟨((hp.nodup_iff).1 hnd).sublist hs, fun i hi => ?_⟩
  have h1 : i ∈ seqL x := by rw [← seqS_ints x hb]; exact (mem_seqS _ i).2 hi
  have h2 := hp.symm.subset (hs.subset h1)
  rw [seqL_norm] at h2
  exact (List.mem_filter.1 h2).2
theorem alloc_ok (l : List (Int × Int)) (n most : Int) (h1 : 1 ≤ n) (h2 : 1 ≤ most) :
    (∃ x, allocS (memS l) n most = (x, 0) ∧ ((x.length : Nat) : Int) ≤ most ∧ ((sizeS (ints x) : Nat) : Int) = n ∧ (seqS (ints x)).Nodup ∧ (∀ i, memS (ints x) i = true → memS l i = true) ∧ ∀ r ∈ x, r.1 + r.2 ≤ 128) ∨
    (allocS (memS l) n most = ([], 14) ∧ ((cntL ((sortS (normS (memS l))).take most.toNat) : Nat) : Int) < n) := by
  have hbd := alloc_bd (memS l) n most
  have hsd := sort_bd (memS l)
  unfold allocS at hbd ⊢
  rw [if_neg (show ¬ (n < 1 ∨ most < 1) by omega)] at hbd ⊢
  split
  · rename_i hb
    rw [if_pos hb] at hbd
    left
    rcases bestF_mem n (normS (memS l)) with h | ⟨hm, h⟩
    · rw [h] at hb; exact absurd rfl hb
    · have hb1 := normS_bd _ _ hm
      have hx : ∀ r ∈ [((bestF n (normS (memS l))).1, n.toNat)], r.1 + r.2 ≤ 128 := hbd
      obtain ⟨i1, i2⟩ := List.append_of_mem ((mem_sortS _ (normS_cnt (memS l)) _).2 hm)
      have hsub : (seqL [((bestF n (normS (memS l))).1, n.toNat)]).Sublist (seqL (sortS (normS (memS l)))) := by
        obtain ⟨i2, e⟩ := i2
        rw [e, seqL_append, seqL_one, seqL_cons]
        exact ((show (seqN ((bestF n (normS (memS l))).1, n.toNat)).Sublist (seqN (bestF n (normS (memS l)))) from seqN_sub (bestF n (normS (memS l))).1 (bestF n (normS (memS l))).2 n.toNat (by omega)).trans (List.sublist_append_left _ _)).trans (List.sublist_append_right _ _)
      obtain ⟨p1, p2⟩ := part_ok (memS l) _ hx hsub
      refine ⟨_, rfl, by simpa using h2, ?_, p1, p2, hx⟩
      rw [sizeS_ints _ hx, cntL_one]
      omega
  · split
    · rename_i hc
      right
      refine ⟨rfl, ?_⟩
      rcases hc with hc | hc
      · have := cntL_take_le (sortS (normS (memS l))) most.toNat
        omega
      · by_cases h0 : n.toNat - cntL ((sortS (normS (memS l))).take most.toNat) = 0
        · have e := takeR_stop ((sortS (normS (memS l))).drop most.toNat) _ _ h0
          rw [List.take_append_drop] at e
          rw [e] at hc
          have h3 := takeR_len ((sortS (normS (memS l))).take most.toNat) n.toNat
          have h4 := List.length_take_le most.toNat (sortS (normS (memS l)))
          omega
        · omega
    · rename_i hb hc
      rw [if_neg hb, if_neg hc] at hbd
      left
      have hc1 : n.toNat - cntL (sortS (normS (memS l))) = 0 := Decidable.not_not.1 (fun h => hc (.inl h))
      have hc2 : ¬ most < ((takeR (sortS (normS (memS l))) n.toNat).length : Int) := fun h => hc (.inr h)
      obtain ⟨p1, p2⟩ := part_ok (memS l) _ hbd (takeR_sub _ _)
      refine ⟨_, rfl, by omega, ?_, p1, p2, hbd⟩
      have h6 := takeR_cnt (sortS (normS (memS l))) n.toNat (by omega)
      have h7 := sizeS_ints _ hbd
      rw [h7]
      show ((cntL (takeR _ _) : Nat) : Int) = n
      rw [h6]
      omega
end Go.Proofs.Ytenbcjlikoajdaa
