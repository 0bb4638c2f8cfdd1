/- Regions that draw their order, once more: behind every operation that is not in A the fact S still holds if it held ahead of it. Loads are taken first under S; what needs no fact may be taken first at any time. -/
import Derived.Test.YtklojcgbokmkhaaOrd
namespace Go.Proofs.Ytklojcgbokmkhaa
set_option linter.unusedVariables false
set_option linter.unusedSimpArgs false
set_option linter.unusedSectionVars false
open Go.RowKit
section
variable {P : Program} {ops : Array Oper} {Q : Exit → Act → World → Prop} {md : Region.Mode} {A : Nat → Bool} {S : World → Prop}
def wpAnyR (P : Program) (md : Region.Mode) (ops : Array Oper) (Q : Exit → Act → World → Prop) (A : Nat → Bool) (S : World → Prop) : Nat → Array Bool → Act → World → Prop
  | 0, listed, a, w => Region.ready md ops listed = [] ∧ Q .normal a w
  | fuel + 1, listed, a, w =>
    (Region.ready md ops listed = [] → Q .normal a w) ∧
    ∀ i ∈ Region.ready md ops listed, wpOp P ops Q i (fun a' w' => (A i = true ∨ (S w → S w')) ∧ wpAnyR P md ops Q A S fuel (listed.setIfInBounds i true) a' w') a w
theorem wpAny_of_R : ∀ (fuel : Nat) (listed : Array Bool) (a : Act) (w : World), wpAnyR P md ops Q A S fuel listed a w → wpAny P md ops Q fuel listed a w
  | 0, _, _, _, h => h
  | fuel + 1, _, _, _, h => ⟨h.1, fun i hi => wpOp_mono (fun a' w' h' => wpAny_of_R fuel _ a' w' h'.2) (h.2 i hi)⟩
theorem wpAnyR_first {i : Nat} {oi : Oper} {v : Value} {late : Nat → Bool} (hi : ops[i]? = some oi) (hsel : ∀ (j : Nat) (o : Oper) cs b, ops[j]? = some o → o.op ≠ .select cs b)
    (hlate : Late md ops i late) (hA : ∀ j, A j = true → late j = true) (hAi : A i = false)
    (hQ : ∀ c a w, Q (.panic c) (a.put oi.dst v) w → Q (.panic c) a w) :
    ∀ (fuel : Nat) (listed : Array Bool) (a : Act) (w : World), Down md ops listed →
      (∀ j oj, ops[j]? = some oj → j ≠ i → listed.getD j true = false → (∀ e ∈ oj.after, Region.binds md e = true → e.on ≠ i) → oi.apart ops oj = true) →
      i ∈ Region.ready md ops listed → YieldsIf P ops S oi v a → S w →
      wpAnyR P md ops Q A S fuel (listed.setIfInBounds i true) (a.put oi.dst v) w → wpAnyR P md ops Q A S (fuel + 1) listed a w := by
  intro fuel
  have hii : i < ops.size := (Array.getElem?_eq_some_iff.1 hi).1
  have key : ∀ (listed : Array Bool), Down md ops listed → i ∈ Region.ready md ops listed → ∀ j, j ∈ Region.ready md ops listed → j ≠ i → A j = false := by
    intro listed hd hr j hj hji
    cases hAj : A j with
    | false => rfl
    | true =>
      exfalso
      have hl := hA j hAj
      obtain ⟨hjun, oj, hoj, hall⟩ := mem_ready.1 hj
      obtain ⟨e, he, hb, hor⟩ := hlate j oj hoj hl
      have h1 := hall e he hb
      have h0 := (mem_ready.1 hr).1
      have hi0 : listed.getD i false = false := by
        rcases Nat.lt_or_ge i listed.size with h' | h'
        · simp [h'] at h0 ⊢; exact h0
        · simp [Array.getElem?_eq_none h']
      rcases hor with h2 | ⟨h2, h3, h4⟩
      · rw [h2, hi0] at h1; cases h1
      · have h5 := hlate.unlisted hd hi0 e.on h4 h2
        rcases Nat.lt_or_ge e.on listed.size with h6 | h6
        · simp [h6] at h1 h5; rw [h1] at h5; cases h5
        · simp [Array.getElem?_eq_none h6] at h1
  induction fuel with
  | zero =>
    intro listed a w hd _ hr hy hS H
    refine ⟨fun h => (by rw [h] at hr; cases hr), fun j hj => ?_⟩
    by_cases hji : j = i
    · subst hji; exact hy.wpOp hi hS ⟨.inr (fun h => h), H⟩
    · have := ready_mono hj hji
      rw [H.1] at this
      cases this
  | succ fuel ih =>
    intro listed a w hd hfree hr hy hS H
    refine ⟨fun h => (by rw [h] at hr; cases hr), fun j hj => ?_⟩
    by_cases hji : j = i
    · subst hji; exact hy.wpOp hi hS ⟨.inr (fun h => h), H⟩
    · have h1 := H.2 j (ready_mono hj hji)
      have hAj := key listed hd hr j hj hji
      obtain ⟨hjun, oj, hoj, hall⟩ := mem_ready.1 hj
      have hnot : ∀ e ∈ oj.after, Region.binds md e = true → e.on ≠ i := fun e he hb heq => by
        have h1 := hall e he hb
        have h0 := (mem_ready.1 hr).1
        rw [heq] at h1
        rcases Nat.lt_or_ge i listed.size with h' | h'
        · simp [h'] at h0 h1; rw [h0] at h1; cases h1
        · simp [Array.getElem?_eq_none h'] at h1
      have h2 := wpOp_putIf hoj (hfree j oj hoj hji hjun hnot) (fun cs b => hsel i oi cs b hi) (fun cs b => hsel j oj cs b hoj) hQ hy h1
      have hfree' : ∀ k ok, ops[k]? = some ok → k ≠ i → (listed.setIfInBounds j true).getD k true = false →
          (∀ e ∈ ok.after, Region.binds md e = true → e.on ≠ i) → oi.apart ops ok = true := fun k ok hk hki hun hno => by
        refine hfree k ok hk hki ?_ hno
        by_cases hjk : j = k
        · subst hjk; exact hjun
        · rw [getD_set_ne true hjk] at hun; exact hun
      refine wpOp_mono (fun a' w' h3 => ?_) h2
      have hS' : S w' := h3.2.1.resolve_left (by rw [hAj]; simp) hS
      refine ⟨h3.2.1, ih (listed.setIfInBounds j true) a' w' (hd.step hj) hfree' (ready_mono hr (Ne.symm hji)) h3.1 hS' ?_⟩
      rw [Array.setIfInBounds_comm _ _ hji]
      exact h3.2.2
theorem wpAnyR_firstQ {i : Nat} {oi : Oper} {v : Value} (hi : ops[i]? = some oi) (hsel : ∀ (j : Nat) (o : Oper) cs b, ops[j]? = some o → o.op ≠ .select cs b)
    (hQ : ∀ c a w, Q (.panic c) (a.put oi.dst v) w → Q (.panic c) a w) :
    ∀ (fuel : Nat) (listed : Array Bool) (a : Act) (w : World), Down md ops listed →
      (∀ j oj, ops[j]? = some oj → j ≠ i → listed.getD j true = false → (∀ e ∈ oj.after, Region.binds md e = true → e.on ≠ i) → oi.apart ops oj = true) →
      i ∈ Region.ready md ops listed → YieldsIf P ops (fun _ => True) oi v a →
      wpAnyR P md ops Q A S fuel (listed.setIfInBounds i true) (a.put oi.dst v) w → wpAnyR P md ops Q A S (fuel + 1) listed a w := by
  intro fuel
  induction fuel with
  | zero =>
    intro listed a w hd _ hr hy H
    refine ⟨fun h => (by rw [h] at hr; cases hr), fun j hj => ?_⟩
    by_cases hji : j = i
    · subst hji; exact hy.wpOp hi trivial ⟨.inr (fun h => h), H⟩
    · have := ready_mono hj hji
      rw [H.1] at this
      cases this
  | succ fuel ih =>
    intro listed a w hd hfree hr hy H
    refine ⟨fun h => (by rw [h] at hr; cases hr), fun j hj => ?_⟩
    by_cases hji : j = i
    · subst hji; exact hy.wpOp hi trivial ⟨.inr (fun h => h), H⟩
    · have h1 := H.2 j (ready_mono hj hji)
      obtain ⟨hjun, oj, hoj, hall⟩ := mem_ready.1 hj
      have hnot : ∀ e ∈ oj.after, Region.binds md e = true → e.on ≠ i := fun e he hb heq => by
        have h1 := hall e he hb
        have h0 := (mem_ready.1 hr).1
        rw [heq] at h1
        rcases Nat.lt_or_ge i listed.size with h' | h'
        · simp [h'] at h0 h1; rw [h0] at h1; cases h1
        · simp [Array.getElem?_eq_none h'] at h1
      have h2 := wpOp_putIf hoj (hfree j oj hoj hji hjun hnot) (fun cs b => hsel i oi cs b hi) (fun cs b => hsel j oj cs b hoj) hQ hy h1
      have hfree' : ∀ k ok, ops[k]? = some ok → k ≠ i → (listed.setIfInBounds j true).getD k true = false →
          (∀ e ∈ ok.after, Region.binds md e = true → e.on ≠ i) → oi.apart ops ok = true := fun k ok hk hki hun hno => by
        refine hfree k ok hk hki ?_ hno
        by_cases hjk : j = k
        · subst hjk; exact hjun
        · rw [getD_set_ne true hjk] at hun; exact hun
      refine wpOp_mono (fun a' w' h3 => ?_) h2
      refine ⟨h3.2.1, ih (listed.setIfInBounds j true) a' w' (hd.step hj) hfree' (ready_mono hr (Ne.symm hji)) h3.1 ?_⟩
      rw [Array.setIfInBounds_comm _ _ hji]
      exact h3.2.2
theorem wpAnyR_take {i : Nat} {oi : Oper} {v : Value} {fuel : Nat} {listed : Array Bool} {a : Act} {w : World} {al : List Nat} (late : List Nat) (d : Option Tmp) (hi : ops[i]? = some oi) (hdst : oi.dst = d)
    (hs : Region.noSelect ops = true) (hd : downB md ops listed = true) (hl : lateB md ops i late.contains = true) (hA : al.all late.contains = true) (hAi : al.contains i = false)
    (hf : Region.free md ops listed i = true) (hr : (Region.ready md ops listed).contains i = true)
    (hQ : ∀ c a w, Q (.panic c) (a.put oi.dst v) w → Q (.panic c) a w) (hy : YieldsIf P ops S oi v a) (hS : S w)
    (h : wpAnyR P md ops Q al.contains S fuel (listed.setIfInBounds i true) (a.put d v) w) : wpAnyR P md ops Q al.contains S (fuel + 1) listed a w := by
  subst hdst
  exact wpAnyR_first hi (Region.noSelect_spec hs) (lateB_spec hl) (fun j hj => List.all_eq_true.1 hA j (by simpa using hj)) hAi hQ fuel listed a w (downB_spec hd) (Region.free_spec hi hf) (by simpa using hr) hy hS h
theorem wpAnyR_takeQ {i : Nat} {oi : Oper} {v : Value} {fuel : Nat} {listed : Array Bool} {a : Act} {w : World} {al : List Nat} (d : Option Tmp) (hi : ops[i]? = some oi) (hdst : oi.dst = d)
    (hs : Region.noSelect ops = true) (hd : downB md ops listed = true)
    (hf : Region.free md ops listed i = true) (hr : (Region.ready md ops listed).contains i = true)
    (hQ : ∀ c a w, Q (.panic c) (a.put oi.dst v) w → Q (.panic c) a w) (hy : YieldsIf P ops (fun _ => True) oi v a)
    (h : wpAnyR P md ops Q al.contains S fuel (listed.setIfInBounds i true) (a.put d v) w) : wpAnyR P md ops Q al.contains S (fuel + 1) listed a w := by
  subst hdst
  exact wpAnyR_firstQ hi (Region.noSelect_spec hs) hQ fuel listed a w (downB_spec hd) (Region.free_spec hi hf) (by simpa using hr) hy h
theorem wpAnyR_n1 {i : Nat} {oi : Oper} {fuel : Nat} {listed : Array Bool} {a : Act} {w : World} {al : List Nat} (hoi : ops[i]? = some oi) (hr : Region.ready md ops listed = [i])
    (gi : (∀ K' : Act → World → Prop, Shut (∀ a' w', (al.contains i = true ∨ (S w → S w')) → wpAnyR P md ops Q al.contains S fuel (listed.setIfInBounds i true) a' w' → K' a' w') → if Region.wanted oi (yielded ops a.tmps) = true then Oper.wp P oi a w K' Q else K' (a.put oi.dst undef) w))
    : wpAnyR P md ops Q al.contains S (fuel + 1) listed a w :=
  ⟨fun h0 => absurd (hr ▸ h0) (by simp), fun x hx => (by
    rw [hr] at hx
    rw [List.mem_singleton.1 hx]
    exact wpOp_step hoi (fun K' hK => gi K' (fun a' w' hS hW => hK a' w' ⟨hS, hW⟩)))⟩
theorem wpAnyR_n2 {i j : Nat} {oi oj : Oper} {fuel : Nat} {listed : Array Bool} {a : Act} {w : World} {al : List Nat} (hoi : ops[i]? = some oi) (hoj : ops[j]? = some oj) (hr : Region.ready md ops listed = [i, j])
    (gi : (∀ K' : Act → World → Prop, Shut (∀ a' w', (al.contains i = true ∨ (S w → S w')) → wpAnyR P md ops Q al.contains S fuel (listed.setIfInBounds i true) a' w' → K' a' w') → if Region.wanted oi (yielded ops a.tmps) = true then Oper.wp P oi a w K' Q else K' (a.put oi.dst undef) w))
    (gj : (∀ K' : Act → World → Prop, Shut (∀ a' w', (al.contains j = true ∨ (S w → S w')) → wpAnyR P md ops Q al.contains S fuel (listed.setIfInBounds j true) a' w' → K' a' w') → if Region.wanted oj (yielded ops a.tmps) = true then Oper.wp P oj a w K' Q else K' (a.put oj.dst undef) w))
    : wpAnyR P md ops Q al.contains S (fuel + 1) listed a w :=
  ⟨fun h0 => absurd (hr ▸ h0) (by simp), fun x hx => (by
    rw [hr] at hx
    rcases List.mem_cons.1 hx with rfl | hx
    · exact wpOp_step hoi (fun K' hK => gi K' (fun a' w' hS hW => hK a' w' ⟨hS, hW⟩))
    rw [List.mem_singleton.1 hx]
    exact wpOp_step hoj (fun K' hK => gj K' (fun a' w' hS hW => hK a' w' ⟨hS, hW⟩)))⟩
theorem wpAnyR_n3 {i j k : Nat} {oi oj ok : Oper} {fuel : Nat} {listed : Array Bool} {a : Act} {w : World} {al : List Nat} (hoi : ops[i]? = some oi) (hoj : ops[j]? = some oj) (hok : ops[k]? = some ok) (hr : Region.ready md ops listed = [i, j, k])
    (gi : (∀ K' : Act → World → Prop, Shut (∀ a' w', (al.contains i = true ∨ (S w → S w')) → wpAnyR P md ops Q al.contains S fuel (listed.setIfInBounds i true) a' w' → K' a' w') → if Region.wanted oi (yielded ops a.tmps) = true then Oper.wp P oi a w K' Q else K' (a.put oi.dst undef) w))
    (gj : (∀ K' : Act → World → Prop, Shut (∀ a' w', (al.contains j = true ∨ (S w → S w')) → wpAnyR P md ops Q al.contains S fuel (listed.setIfInBounds j true) a' w' → K' a' w') → if Region.wanted oj (yielded ops a.tmps) = true then Oper.wp P oj a w K' Q else K' (a.put oj.dst undef) w))
    (gk : (∀ K' : Act → World → Prop, Shut (∀ a' w', (al.contains k = true ∨ (S w → S w')) → wpAnyR P md ops Q al.contains S fuel (listed.setIfInBounds k true) a' w' → K' a' w') → if Region.wanted ok (yielded ops a.tmps) = true then Oper.wp P ok a w K' Q else K' (a.put ok.dst undef) w))
    : wpAnyR P md ops Q al.contains S (fuel + 1) listed a w :=
  ⟨fun h0 => absurd (hr ▸ h0) (by simp), fun x hx => (by
    rw [hr] at hx
    rcases List.mem_cons.1 hx with rfl | hx
    · exact wpOp_step hoi (fun K' hK => gi K' (fun a' w' hS hW => hK a' w' ⟨hS, hW⟩))
    rcases List.mem_cons.1 hx with rfl | hx
    · exact wpOp_step hoj (fun K' hK => gj K' (fun a' w' hS hW => hK a' w' ⟨hS, hW⟩))
    rw [List.mem_singleton.1 hx]
    exact wpOp_step hok (fun K' hK => gk K' (fun a' w' hS hW => hK a' w' ⟨hS, hW⟩)))⟩
theorem wpAnyR_n4 {i j k l : Nat} {oi oj ok ol : Oper} {fuel : Nat} {listed : Array Bool} {a : Act} {w : World} {al : List Nat} (hoi : ops[i]? = some oi) (hoj : ops[j]? = some oj) (hok : ops[k]? = some ok) (hol : ops[l]? = some ol) (hr : Region.ready md ops listed = [i, j, k, l])
    (gi : (∀ K' : Act → World → Prop, Shut (∀ a' w', (al.contains i = true ∨ (S w → S w')) → wpAnyR P md ops Q al.contains S fuel (listed.setIfInBounds i true) a' w' → K' a' w') → if Region.wanted oi (yielded ops a.tmps) = true then Oper.wp P oi a w K' Q else K' (a.put oi.dst undef) w))
    (gj : (∀ K' : Act → World → Prop, Shut (∀ a' w', (al.contains j = true ∨ (S w → S w')) → wpAnyR P md ops Q al.contains S fuel (listed.setIfInBounds j true) a' w' → K' a' w') → if Region.wanted oj (yielded ops a.tmps) = true then Oper.wp P oj a w K' Q else K' (a.put oj.dst undef) w))
    (gk : (∀ K' : Act → World → Prop, Shut (∀ a' w', (al.contains k = true ∨ (S w → S w')) → wpAnyR P md ops Q al.contains S fuel (listed.setIfInBounds k true) a' w' → K' a' w') → if Region.wanted ok (yielded ops a.tmps) = true then Oper.wp P ok a w K' Q else K' (a.put ok.dst undef) w))
    (gl : (∀ K' : Act → World → Prop, Shut (∀ a' w', (al.contains l = true ∨ (S w → S w')) → wpAnyR P md ops Q al.contains S fuel (listed.setIfInBounds l true) a' w' → K' a' w') → if Region.wanted ol (yielded ops a.tmps) = true then Oper.wp P ol a w K' Q else K' (a.put ol.dst undef) w))
    : wpAnyR P md ops Q al.contains S (fuel + 1) listed a w :=
  ⟨fun h0 => absurd (hr ▸ h0) (by simp), fun x hx => (by
    rw [hr] at hx
    rcases List.mem_cons.1 hx with rfl | hx
    · exact wpOp_step hoi (fun K' hK => gi K' (fun a' w' hS hW => hK a' w' ⟨hS, hW⟩))
    rcases List.mem_cons.1 hx with rfl | hx
    · exact wpOp_step hoj (fun K' hK => gj K' (fun a' w' hS hW => hK a' w' ⟨hS, hW⟩))
    rcases List.mem_cons.1 hx with rfl | hx
    · exact wpOp_step hok (fun K' hK => gk K' (fun a' w' hS hW => hK a' w' ⟨hS, hW⟩))
    rw [List.mem_singleton.1 hx]
    exact wpOp_step hol (fun K' hK => gl K' (fun a' w' hS hW => hK a' w' ⟨hS, hW⟩)))⟩
theorem wpAnyR_done {listed : Array Bool} {a : Act} {w : World} {al : List Nat} (hr : Region.ready md ops listed = []) (h : Q .normal a w) : ∀ fuel, wpAnyR P md ops Q al.contains S fuel listed a w
  | 0 => ⟨hr, h⟩
  | _ + 1 => ⟨fun _ => h, by rw [hr]; simp⟩
theorem wp_region_R {id : Nat} {a : Act} {w : World} (al : List Nat) (S : World → Prop) (hm : P.follows .mixedOrders = true)
    (h : wpAnyR P .any ops Q al.contains S ops.size (Array.replicate ops.size false) a w.drew) : (Code.region id ops true).wp P Q a w :=
  wp_region_any hm (wpAny_of_R _ _ _ _ h)
end
end Go.Proofs.Ytklojcgbokmkhaa
