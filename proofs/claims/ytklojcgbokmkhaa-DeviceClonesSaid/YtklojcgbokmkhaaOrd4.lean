/- Regions that draw their order: operations that wait for nothing any more and make memory, each on its own, in whatever order. -/
import Derived.Test.YtklojcgbokmkhaaOrd3
namespace Go.Proofs.Ytklojcgbokmkhaa
set_option linter.unusedVariables false
set_option linter.unusedSimpArgs false
set_option linter.unusedSectionVars false
open Go.RowKit
/-- The values of the listed ones of M put. -/
def putL (vals : Nat → Value) (s : Nat → Bool) : List (Nat × Nat) → Act → Act
  | [], a => a
  | p :: M, a => putL vals s M (if s p.1 then a.put (some p.2) (vals p.1) else a)
def setL (s : Nat → Bool) : List (Nat × Nat) → Array Bool → Array Bool
  | [], l => l
  | p :: M, l => setL s M (if s p.1 then l.setIfInBounds p.1 true else l)
theorem put_comm (a : Act) (d d' : Nat) (v v' : Value) (h : d ≠ d') : (a.put (some d) v).put (some d') v' = (a.put (some d') v').put (some d) v := by
  simp only [Act.put]
  congr 1
  exact Array.setIfInBounds_comm _ _ h
theorem putL_put (vals : Nat → Value) (s : Nat → Bool) : ∀ (M : List (Nat × Nat)) (a : Act) (d : Nat) (v : Value), d ∉ M.map (·.2) → putL vals s M (a.put (some d) v) = (putL vals s M a).put (some d) v
  | [], _, _, _, _ => rfl
  | p :: M, a, d, v, h => by
    rw [List.map_cons, List.mem_cons, not_or] at h
    unfold putL
    cases hs : s p.1 with
    | false => simp only [Bool.false_eq_true, if_false]; exact putL_put vals s M a d v h.2
    | true => simp only [if_true]; rw [put_comm a d p.2 _ _ h.1]; exact putL_put vals s M _ d v h.2
theorem putL_congr (vals vals' : Nat → Value) (s s' : Nat → Bool) : ∀ (M : List (Nat × Nat)) (a : Act), (∀ p ∈ M, s p.1 = s' p.1 ∧ (s p.1 = true → vals p.1 = vals' p.1)) → putL vals s M a = putL vals' s' M a
  | [], _, _ => rfl
  | p :: M, a, h => by
    unfold putL
    have h1 := h p (List.mem_cons_self ..)
    rw [putL_congr vals vals' s s' M _ (fun q hq => h q (List.mem_cons_of_mem _ hq)), ← h1.1]
    cases hs : s p.1 with
    | false => rfl
    | true => rw [h1.2 hs]
theorem putL_upd (vals : Nat → Value) (s : Nat → Bool) (i d : Nat) (v : Value) : ∀ (M : List (Nat × Nat)) (a : Act), (i, d) ∈ M → (M.map (·.1)).Nodup → (M.map (·.2)).Nodup → s i = false →
    putL (fun j => if j = i then v else vals j) (fun j => if j = i then true else s j) M a = (putL vals s M a).put (some d) v
  | [], _, h, _, _, _ => by cases h
  | p :: M, a, h, h1, h2, hs => by
    rw [List.map_cons, List.nodup_cons] at h1 h2
    rcases List.mem_cons.1 h with h | h
    · subst h
      unfold putL
      simp only [if_true, hs, Bool.false_eq_true, if_false]
      rw [putL_congr _ vals _ s M _ (fun q hq => ?_), putL_put vals s M a d v h2.1]
      have : q.1 ≠ i := fun e => h1.1 (List.mem_map.2 ⟨q, hq, e⟩)
      simp [this]
    · have hne : p.1 ≠ i := fun e => h1.1 (by rw [e]; exact List.mem_map.2 ⟨(i, d), h, rfl⟩)
      unfold putL
      rw [if_neg hne, if_neg hne]
      exact putL_upd vals s i d v M _ h h1.2 h2.2 hs
theorem putL_eval (vals : Nat → Value) (s : Nat → Bool) (t : Nat) : ∀ (M : List (Nat × Nat)) (a : Act), t ∉ M.map (·.2) → (putL vals s M a).tmps.getD t undef = a.tmps.getD t undef
  | [], _, _ => rfl
  | p :: M, a, h => by
    rw [List.map_cons, List.mem_cons, not_or] at h
    unfold putL
    rw [putL_eval vals s t M _ h.2]
    cases s p.1 with
    | false => rfl
    | true =>
      simp only [if_true, Act.put]
      simp only [Array.getD_eq_getD_getElem?]
      rw [Array.getElem?_setIfInBounds_ne (fun e => h.1 e.symm)]
theorem setL_set (s : Nat → Bool) : ∀ (M : List (Nat × Nat)) (l : Array Bool) (i : Nat), setL s M (l.setIfInBounds i true) = (setL s M l).setIfInBounds i true
  | [], _, _ => rfl
  | p :: M, l, i => by
    unfold setL
    cases s p.1 with
    | false => exact setL_set s M l i
    | true =>
      simp only [if_true]
      by_cases h : i = p.1
      · subst h; rw [setL_set s M (l.setIfInBounds p.1 true) p.1]
      · rw [Array.setIfInBounds_comm _ _ h]; exact setL_set s M _ i
theorem setL_congr (s s' : Nat → Bool) : ∀ (M : List (Nat × Nat)) (l : Array Bool), (∀ p ∈ M, s p.1 = s' p.1) → setL s M l = setL s' M l
  | [], _, _ => rfl
  | p :: M, l, h => by
    unfold setL
    rw [h p (List.mem_cons_self ..)]
    exact setL_congr s s' M _ (fun q hq => h q (List.mem_cons_of_mem _ hq))
theorem setL_upd (s : Nat → Bool) (i d : Nat) : ∀ (M : List (Nat × Nat)) (l : Array Bool), (i, d) ∈ M → (M.map (·.1)).Nodup → s i = false → setL (fun j => if j = i then true else s j) M l = (setL s M l).setIfInBounds i true
  | [], _, h, _, _ => by cases h
  | p :: M, l, h, h1, hs => by
    rw [List.map_cons, List.nodup_cons] at h1
    rcases List.mem_cons.1 h with h | h
    · subst h
      unfold setL
      simp only [if_true, hs, Bool.false_eq_true, if_false]
      rw [setL_congr _ s M _ (fun q hq => ?_), setL_set]
      have : q.1 ≠ i := fun e => h1.1 (List.mem_map.2 ⟨q, hq, e⟩)
      simp [this]
    · have hne : p.1 ≠ i := fun e => h1.1 (by rw [e]; exact List.mem_map.2 ⟨(i, d), h, rfl⟩)
      unfold setL
      rw [if_neg hne]
      exact setL_upd s i d M _ h h1.2 hs
def subsL : List (Nat × Nat) → List (List (Nat × Nat))
  | [] => [[]]
  | p :: M => subsL M ++ (subsL M).map (p :: ·)
theorem mem_subsL (q : Nat × Nat → Bool) : ∀ M, M.filter q ∈ subsL M
  | [] => List.mem_singleton.2 rfl
  | p :: M => by
    unfold subsL
    rw [List.filter_cons]
    cases q p with
    | false => exact List.mem_append_left _ (mem_subsL q M)
    | true => exact List.mem_append_right _ (List.mem_map_of_mem (mem_subsL q M))
def parB (md : Region.Mode) (ops : Array Oper) (listed : Array Bool) (M : List (Nat × Nat)) : Bool :=
  decide (M.map (·.1)).Nodup && decide (M.map (·.2)).Nodup && (M.all fun p => (match ops[p.1]? with | some o => o.dst == some p.2 | none => false)) &&
  (subsL M).all fun t => t.length == M.length || Region.ready md ops (setL (fun i => (t.map (·.1)).contains i) M listed) == (M.filter fun p => !(t.map (·.1)).contains p.1).map (·.1)
section
variable {P : Program} {ops : Array Oper} {Q : Exit → Act → World → Prop} {md : Region.Mode} {S : World → Prop}
theorem filter_none {α : Type} (p : α → Bool) (l : List α) (h : (l.filter fun x => !p x) = []) : ∀ x ∈ l, p x = true := by
  intro x hx
  rw [List.filter_eq_nil_iff] at h
  have := h x hx
  simpa using this
theorem filter_split {α : Type} (p : α → Bool) : ∀ l : List α, (l.filter p).length + (l.filter fun x => !p x).length = l.length
  | [] => rfl
  | x :: l => by have := filter_split p l; cases hp : p x <;> simp [List.filter_cons, hp] <;> omega
/-- The operations of M come up in whatever order; what each yields lasts while memory grows. -/
theorem wpAnyR_par {N fuel : Nat} {listed : Array Bool} {a : Act} {w : World} {al : List Nat} (M : List (Nat × Nat)) (R : Nat → Value → World → Prop) (hN : N = fuel + M.length) (hB : parB md ops listed M = true)
    (hst : ∀ i v w1 w2, Grew w1 w2 → R i v w1 → R i v w2) (hSt : ∀ w1 w2, Grew w1 w2 → S w1 → S w2)
    (hstep : ∀ p ∈ M, ∀ (a' : Act) (w' : World), Grew w w' → (∀ t, t ∉ M.map (·.2) → a'.tmps.getD t undef = a.tmps.getD t undef) → ∀ K' : Act → World → Prop, Shut (∀ v w'', Grew w' w'' → R p.1 v w'' → K' (a'.put (some p.2) v) w'') →
      ∃ o, ops[p.1]? = some o ∧ if Region.wanted o (yielded ops a'.tmps) = true then Oper.wp P o a' w' K' Q else K' (a'.put o.dst undef) w')
    (hend : ∀ (vals : Nat → Value) w', Grew w w' → (∀ p ∈ M, R p.1 (vals p.1) w') → wpAnyR P md ops Q al.contains S fuel (setL (fun _ => true) M listed) (putL vals (fun _ => true) M a) w') :
    wpAnyR P md ops Q al.contains S N listed a w := by
  unfold parB at hB
  simp only [Bool.and_eq_true, decide_eq_true_eq] at hB
  obtain ⟨⟨⟨hn1, hn2⟩, hd⟩, hsub⟩ := hB
  have hready : ∀ s : Nat → Bool, (M.filter fun p => !s p.1) ≠ [] → Region.ready md ops (setL s M listed) = (M.filter fun p => !s p.1).map (·.1) := by
    intro s hne
    have h1 := List.all_eq_true.1 hsub _ (mem_subsL (fun p => s p.1) M)
    have hmem : ∀ p ∈ M, ((M.filter fun p => s p.1).map (·.1)).contains p.1 = s p.1 := by
      intro p hp
      rw [Bool.eq_iff_iff, List.contains_iff_mem, List.mem_map]
      constructor
      · rintro ⟨q, hq, e⟩
        rw [← e]; exact (List.mem_filter.1 hq).2
      · intro h; exact ⟨p, List.mem_filter.2 ⟨hp, h⟩, rfl⟩
    rw [Bool.or_eq_true] at h1
    rcases h1 with h1 | h1
    · exfalso
      have h2 := filter_split (fun p : Nat × Nat => s p.1) M
      rw [beq_iff_eq] at h1
      exact hne (List.length_eq_zero_iff.1 (by omega))
    · rw [beq_iff_eq] at h1
      rw [setL_congr s _ M listed (fun p hp => (hmem p hp).symm), h1]
      congr 1
      exact List.filter_congr (fun p hp => by rw [hmem p hp])
  have key : ∀ (k : Nat) (s : Nat → Bool) (vals : Nat → Value) (w' : World), (M.filter fun p => !s p.1).length = k → Grew w w' → (∀ p ∈ M, s p.1 = true → R p.1 (vals p.1) w') →
      wpAnyR P md ops Q al.contains S (fuel + k) (setL s M listed) (putL vals s M a) w' := by
    intro k
    induction k with
    | zero =>
      intro s vals w' hk hg hR
      have hall := filter_none (fun p : Nat × Nat => s p.1) M (List.length_eq_zero_iff.1 hk)
      rw [setL_congr s (fun _ => true) M listed (fun p hp => hall p hp), putL_congr vals vals s (fun _ => true) M a (fun p hp => ⟨hall p hp, fun _ => rfl⟩)]
      exact hend vals w' hg (fun p hp => hR p hp (hall p hp))
    | succ k ih =>
      intro s vals w' hk hg hR
      have hne : (M.filter fun p => !s p.1) ≠ [] := fun e => by rw [e] at hk; cases hk
      have hr := hready s hne
      refine ⟨fun h => absurd (hr ▸ h) (by simp at hne ⊢; exact hne), fun i hi => ?_⟩
      rw [hr] at hi
      obtain ⟨p, hp, rfl⟩ := List.mem_map.1 hi
      obtain ⟨hpM, hps⟩ := List.mem_filter.1 hp
      rw [Bool.not_eq_true'] at hps
      obtain ⟨i, d⟩ := p
      have hoi : ∃ o, ops[i]? = some o := by
        have := List.all_eq_true.1 hd _ hpM
        cases h : ops[i]? with
        | none => simp [h] at this
        | some o => exact ⟨o, rfl⟩
      obtain ⟨o, ho⟩ := hoi
      refine wpOp_step ho (fun K' hK => ?_)
      have hstep' := hstep (i, d) hpM (putL vals s M a) w' hg (fun t ht => putL_eval vals s t M a ht) K' (fun v w'' hg2 hRv => by
        refine hK _ _ ⟨.inr (fun h => hSt _ _ hg2 h), ?_⟩
        have hcnt : (M.filter fun p => !(if p.1 = i then true else s p.1)).length = k := by
          have e1 : ∀ M' : List (Nat × Nat), (i, d) ∈ M' → (M'.map (·.1)).Nodup → (M'.filter fun p => !(if p.1 = i then true else s p.1)).length + 1 = (M'.filter fun p => !s p.1).length := by
            intro M'
            induction M' with
            | nil => intro h; cases h
            | cons q M' ihM =>
              intro h hnd
              rw [List.map_cons, List.nodup_cons] at hnd
              rcases List.mem_cons.1 h with h | h
              · subst h
                have e2 : (M'.filter fun p => !(if p.1 = i then true else s p.1)) = M'.filter fun p => !s p.1 := List.filter_congr (fun q hq => by
                  have : q.1 ≠ i := fun e => hnd.1 (List.mem_map.2 ⟨q, hq, e⟩)
                  rw [if_neg this])
                rw [List.filter_cons, List.filter_cons, e2]
                simp [hps]
              · have hne : q.1 ≠ i := fun e => hnd.1 (by rw [e]; exact List.mem_map.2 ⟨(i, d), h, rfl⟩)
                have := ihM h hnd.2
                rw [List.filter_cons, List.filter_cons]
                simp only [hne, if_false]
                cases s q.1 with
                | false => simp only [Bool.not_false, if_true, List.length_cons]; omega
                | true => simp only [Bool.not_true, Bool.false_eq_true, if_false]; exact this
          have := e1 M hpM hn1
          omega
        have := ih (fun j => if j = i then true else s j) (fun j => if j = i then v else vals j) w'' hcnt (hg.trans hg2) (fun p hp hs => by
          by_cases hpi : p.1 = i
          · simp only [hpi, if_true]; exact hRv
          · simp only [hpi, if_false] at hs ⊢; exact hst _ _ _ _ hg2 (hR p hp hs))
        rw [setL_upd s i d M listed hpM hn1 hps, putL_upd vals s i d v M a hpM hn1 hn2 hps] at this
        exact this)
      obtain ⟨o', ho', h⟩ := hstep'
      rw [ho] at ho'
      injection ho' with ho'
      subst ho'
      exact h
  subst hN
  have h0 := key M.length (fun _ => false) (fun _ => undef) w (by rw [show (M.filter fun p => !false) = M from List.filter_eq_self.2 (fun _ _ => rfl)]) (Grew.refl w) (fun _ _ h => by cases h)
  have e1 : ∀ (M : List (Nat × Nat)) (l : Array Bool), setL (fun _ => false) M l = l := by
    intro M
    induction M with
    | nil => intro l; rfl
    | cons p M ih => intro l; unfold setL; exact ih l
  have e2 : ∀ (M : List (Nat × Nat)) (a : Act), putL (fun _ => undef) (fun _ => false) M a = a := by
    intro M
    induction M with
    | nil => intro l; rfl
    | cons p M ih => intro l; unfold putL; exact ih l
  rwa [e1, e2] at h0
end
end Go.Proofs.Ytklojcgbokmkhaa
