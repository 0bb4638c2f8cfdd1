/- Regions that draw their order, whose last store turns a cell that the region has loaded: loads are taken first under a fact that need not hold behind the operations A. -/
import Derived.Test.YtklojcgbokmkhaaFrame
import Derived.OrdersHeld
import Derived.Deep.RegionHeld3
import Derived.Deep.DrawnRows
namespace Go.Proofs.Ytklojcgbokmkhaa
set_option linter.unusedVariables false
set_option linter.unusedSimpArgs false
set_option linter.unusedSectionVars false
open Go.RowKit
section
variable {P : Program} {ops : Array Oper} {Q : Exit → Act → World → Prop} {md : Region.Mode} {A : Nat → Bool} {S : World → Prop}
/-- Whatever order is picked from here on; and S holds behind every operation that is not in A. -/
def wpAnyG (P : Program) (md : Region.Mode) (ops : Array Oper) (Q : Exit → Act → World → Prop) (A : Nat → Bool) (S : World → Prop) : Nat → Array Bool → Act → World → Prop
  | 0, listed, a, w => Region.ready md ops listed = [] ∧ Q .normal a w
  | fuel + 1, listed, a, w =>
    (Region.ready md ops listed = [] → Q .normal a w) ∧
    ∀ i ∈ Region.ready md ops listed, wpOp P ops Q i (fun a' w' => (A i = true ∨ S w') ∧ wpAnyG P md ops Q A S fuel (listed.setIfInBounds i true) a' w') a w
theorem wpAny_of_G : ∀ (fuel : Nat) (listed : Array Bool) (a : Act) (w : World), wpAnyG P md ops Q A S fuel listed a w → wpAny P md ops Q fuel listed a w
  | 0, _, _, _, h => h
  | fuel + 1, _, _, _, h => ⟨h.1, fun i hi => wpOp_mono (fun a' w' h' => wpAny_of_G fuel _ a' w' h'.2) (h.2 i hi)⟩
/-- What is listed has come up behind all that it waits for. -/
def Down (md : Region.Mode) (ops : Array Oper) (listed : Array Bool) : Prop :=
  ∀ j oj, ops[j]? = some oj → listed.getD j true = true → ∀ e ∈ oj.after, Region.binds md e = true → listed.getD e.on false = true
theorem Down.step {listed : Array Bool} (h : Down md ops listed) {j : Nat} (hj : j ∈ Region.ready md ops listed) : Down md ops (listed.setIfInBounds j true) := by
  intro k ok hk hl e he hb
  by_cases hjk : j = k
  · subst hjk
    obtain ⟨_, oj, hoj, hall⟩ := mem_ready.1 hj
    rw [hoj] at hk
    injection hk with hk
    subst hk
    exact getD_set_true (hall e he hb)
  · rw [getD_set_ne true hjk] at hl
    exact getD_set_true (h k ok hk hl e he hb)
/-- 'late' names operations that wait for i, at once or through one another. -/
def Late (md : Region.Mode) (ops : Array Oper) (i : Nat) (late : Nat → Bool) : Prop :=
  ∀ j oj, ops[j]? = some oj → late j = true → ∃ e ∈ oj.after, Region.binds md e = true ∧ (e.on = i ∨ (late e.on = true ∧ e.on < j ∧ e.on < ops.size))
theorem Late.unlisted {i : Nat} {late : Nat → Bool} (h : Late md ops i late) {listed : Array Bool} (hd : Down md ops listed) (hi : listed.getD i false = false) : ∀ j, j < ops.size → late j = true → listed.getD j true = false := by
  intro j
  induction j using Nat.strongRecOn with
  | ind j ih =>
    intro hj hl
    obtain ⟨e, he, hb, hor⟩ := h j ops[j] (Array.getElem?_eq_getElem hj) hl
    cases hlj : listed.getD j true with
    | false => rfl
    | true =>
      have h1 := hd j ops[j] (Array.getElem?_eq_getElem hj) hlj e he hb
      rcases hor with h2 | ⟨h2, h3, h4⟩
      · rw [h2, hi] at h1; cases h1
      · have h5 := ih e.on h3 h4 h2
        rcases Nat.lt_or_ge e.on listed.size with h6 | h6
        · simp [h6] at h1 h5; rw [h1] at h5; cases h5
        · simp [Array.getElem?_eq_none h6] at h1
theorem wpAnyG_first {i : Nat} {oi : Oper} {v : Value} {late : Nat → Bool} (hi : ops[i]? = some oi) (hsel : ∀ (j : Nat) (o : Oper) cs b, ops[j]? = some o → o.op ≠ .select cs b)
    (hlate : Late md ops i late) (hA : ∀ j, A j = true → late j = true) (hAi : A i = false)
    (hQ : ∀ c a w, Q (.panic c) (a.put oi.dst v) w → Q (.panic c) a w) :
    ∀ (fuel : Nat) (listed : Array Bool) (a : Act) (w : World), Down md ops listed →
      (∀ j oj, ops[j]? = some oj → j ≠ i → listed.getD j true = false → (∀ e ∈ oj.after, Region.binds md e = true → e.on ≠ i) → oi.apart ops oj = true) →
      i ∈ Region.ready md ops listed → YieldsIf P ops S oi v a → S w →
      wpAnyG P md ops Q A S fuel (listed.setIfInBounds i true) (a.put oi.dst v) w → wpAnyG P md ops Q A S (fuel + 1) listed a w := by
  intro fuel
  have hii : i < ops.size := (Array.getElem?_eq_some_iff.1 hi).1
  have key : ∀ (listed : Array Bool), Down md ops listed → i ∈ Region.ready md ops listed → ∀ j, j ∈ Region.ready md ops listed → j ≠ i → A j = false := by
    intro listed hd hr j hj hji
    cases hAj : A j with
    | false => rfl
    | true =>
      exfalso
      have hl := hA j hAj
      obtain ⟨hjun, oj, hoj, hall⟩ := mem_ready.1 hj
      obtain ⟨e, he, hb, hor⟩ := hlate j oj hoj hl
      have h1 := hall e he hb
      have h0 := (mem_ready.1 hr).1
      have hi0 : listed.getD i false = false := by
        rcases Nat.lt_or_ge i listed.size with h' | h'
        · simp [h'] at h0 ⊢; exact h0
        · simp [Array.getElem?_eq_none h']
      rcases hor with h2 | ⟨h2, h3, h4⟩
      · rw [h2, hi0] at h1; cases h1
      · have h5 := hlate.unlisted hd hi0 e.on h4 h2
        rcases Nat.lt_or_ge e.on listed.size with h6 | h6
        · simp [h6] at h1 h5; rw [h1] at h5; cases h5
        · simp [Array.getElem?_eq_none h6] at h1
  induction fuel with
  | zero =>
    intro listed a w hd _ hr hy hS H
    refine ⟨fun h => (by rw [h] at hr; cases hr), fun j hj => ?_⟩
    by_cases hji : j = i
    · subst hji; exact hy.wpOp hi hS ⟨.inr hS, H⟩
    · have := ready_mono hj hji
      rw [H.1] at this
      cases this
  | succ fuel ih =>
    intro listed a w hd hfree hr hy hS H
    refine ⟨fun h => (by rw [h] at hr; cases hr), fun j hj => ?_⟩
    by_cases hji : j = i
    · subst hji; exact hy.wpOp hi hS ⟨.inr hS, H⟩
    · have h1 := H.2 j (ready_mono hj hji)
      have hAj := key listed hd hr j hj hji
      obtain ⟨hjun, oj, hoj, hall⟩ := mem_ready.1 hj
      have hnot : ∀ e ∈ oj.after, Region.binds md e = true → e.on ≠ i := fun e he hb heq => by
        have h1 := hall e he hb
        have h0 := (mem_ready.1 hr).1
        rw [heq] at h1
        rcases Nat.lt_or_ge i listed.size with h' | h'
        · simp [h'] at h0 h1; rw [h0] at h1; cases h1
        · simp [Array.getElem?_eq_none h'] at h1
      have h2 := wpOp_putIf hoj (hfree j oj hoj hji hjun hnot) (fun cs b => hsel i oi cs b hi) (fun cs b => hsel j oj cs b hoj) hQ hy h1
      have hfree' : ∀ k ok, ops[k]? = some ok → k ≠ i → (listed.setIfInBounds j true).getD k true = false →
          (∀ e ∈ ok.after, Region.binds md e = true → e.on ≠ i) → oi.apart ops ok = true := fun k ok hk hki hun hno => by
        refine hfree k ok hk hki ?_ hno
        by_cases hjk : j = k
        · subst hjk; exact hjun
        · rw [getD_set_ne true hjk] at hun; exact hun
      refine wpOp_mono (fun a' w' h3 => ?_) h2
      have hS' : S w' := h3.2.1.resolve_left (by rw [hAj]; simp)
      refine ⟨.inr hS', ih (listed.setIfInBounds j true) a' w' (hd.step hj) hfree' (ready_mono hr (Ne.symm hji)) h3.1 hS' ?_⟩
      rw [Array.setIfInBounds_comm _ _ hji]
      exact h3.2.2
/-- The side conditions, to be reckoned. -/
def downB (md : Region.Mode) (ops : Array Oper) (listed : Array Bool) : Bool :=
  (List.range ops.size).all fun j => !listed.getD j true || (match ops[j]? with | some o => o.after.all (fun e => !Region.binds md e || listed.getD e.on false) | none => true)
theorem downB_spec {listed : Array Bool} (h : downB md ops listed = true) : Down md ops listed := by
  intro j oj hj hl e he hb
  have hlt := (Array.getElem?_eq_some_iff.1 hj).1
  have h1 := List.all_eq_true.1 h j (List.mem_range.2 hlt)
  simp only [hl, hj, Bool.not_true, Bool.false_or] at h1
  have h2 := (Array.all_eq_true_iff_forall_mem.1 h1) e he
  simpa [hb] using h2
def lateB (md : Region.Mode) (ops : Array Oper) (i : Nat) (late : Nat → Bool) : Bool :=
  (List.range ops.size).all fun j => !late j || (match ops[j]? with | some o => o.after.any (fun e => Region.binds md e && (e.on == i || (late e.on && decide (e.on < j) && decide (e.on < ops.size)))) | none => true)
theorem lateB_spec {i : Nat} {late : Nat → Bool} (h : lateB md ops i late = true) : Late md ops i late := by
  intro j oj hj hl
  have hlt := (Array.getElem?_eq_some_iff.1 hj).1
  have h1 := List.all_eq_true.1 h j (List.mem_range.2 hlt)
  simp only [hl, hj, Bool.not_true, Bool.false_or] at h1
  obtain ⟨e, he, h2⟩ := Array.any_eq_true'.1 h1
  simp only [Bool.and_eq_true, Bool.or_eq_true, beq_iff_eq, decide_eq_true_eq] at h2
  exact ⟨e, he, h2.1, h2.2.imp id (fun h => ⟨h.1.1, h.1.2, h.2⟩)⟩
theorem wpAnyG_take {i : Nat} {oi : Oper} {v : Value} {fuel : Nat} {listed : Array Bool} {a : Act} {w : World} {al : List Nat} (late : List Nat) (d : Option Tmp) (hi : ops[i]? = some oi) (hdst : oi.dst = d)
    (hs : Region.noSelect ops = true) (hd : downB md ops listed = true) (hl : lateB md ops i late.contains = true) (hA : al.all late.contains = true) (hAi : al.contains i = false)
    (hf : Region.free md ops listed i = true) (hr : (Region.ready md ops listed).contains i = true)
    (hQ : ∀ c a w, Q (.panic c) (a.put oi.dst v) w → Q (.panic c) a w) (hy : YieldsIf P ops S oi v a) (hS : S w)
    (h : wpAnyG P md ops Q al.contains S fuel (listed.setIfInBounds i true) (a.put d v) w) : wpAnyG P md ops Q al.contains S (fuel + 1) listed a w := by
  subst hdst
  exact wpAnyG_first hi (Region.noSelect_spec hs) (lateB_spec hl) (fun j hj => List.all_eq_true.1 hA j (by simpa using hj)) hAi hQ fuel listed a w (downB_spec hd) (Region.free_spec hi hf) (by simpa using hr) hy hS h
/-- One operation alone may come up. -/
theorem wpAnyG_one {i : Nat} {o : Oper} {fuel : Nat} {listed : Array Bool} {a : Act} {w : World} {al : List Nat} (ho : ops[i]? = some o) (hr : Region.ready md ops listed = [i])
    (h : ∀ K' : Act → World → Prop, Shut (∀ a w, (al.contains i = true ∨ S w) → wpAnyG P md ops Q al.contains S fuel (listed.setIfInBounds i true) a w → K' a w) → if Region.wanted o (yielded ops a.tmps) = true then Oper.wp P o a w K' Q else K' (a.put o.dst undef) w) :
    wpAnyG P md ops Q al.contains S (fuel + 1) listed a w :=
  ⟨fun h0 => absurd (hr ▸ h0) (by simp), fun j hj => (by
    rw [hr] at hj
    rw [List.mem_singleton.1 hj]
    exact wpOp_step ho (fun K' hK => h K' (fun a w hS hW => hK a w ⟨hS, hW⟩)))⟩
theorem wpAnyG_done {listed : Array Bool} {a : Act} {w : World} {al : List Nat} (hr : Region.ready md ops listed = []) (h : Q .normal a w) : ∀ fuel, wpAnyG P md ops Q al.contains S fuel listed a w
  | 0 => ⟨hr, h⟩
  | _ + 1 => ⟨fun _ => h, by rw [hr]; simp⟩
theorem wp_region_G {id : Nat} {a : Act} {w : World} (al : List Nat) (S : World → Prop) (hm : P.follows .mixedOrders = true)
    (h : wpAnyG P .any ops Q al.contains S ops.size (Array.replicate ops.size false) a w.drew) : (Code.region id ops true).wp P Q a w :=
  wp_region_any hm (wpAny_of_G _ _ _ _ h)
end
end Go.Proofs.Ytklojcgbokmkhaa
