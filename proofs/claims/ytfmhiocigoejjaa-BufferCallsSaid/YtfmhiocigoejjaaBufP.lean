/- BufferRecent: the plain laws. -/
import Derived.Test.YtfmhiocigoejjaaBufN
namespace Go.Proofs.Ytfmhiocigoejjaa
set_option linter.unusedVariables false
set_option linter.unusedSimpArgs false
set_option linter.unusedSectionVars false
open Go.RowKit
def lastN {α : Type} (n : Nat) (l : List α) : List α := l.drop (l.length - n)
def rmvP (U : List Place) (p : Place) : List Place := U.filter fun q => !decide (q = p)
theorem keys_rmv (L : List Pg) (p : Place) : keys (rmv L p) = rmvP (keys L) p := keys_filter L (fun q => decide (q = p))
theorem rmvP_le (U : List Place) (p : Place) : (rmvP U p).length ≤ U.length := List.length_filter_le _ _
theorem rmvP_ge (U : List Place) (p : Place) (h : U.Nodup) : U.length ≤ (rmvP U p).length + 1 := by
  induction U with
  | nil => simp
  | cons x U ih =>
    obtain ⟨h1, h2⟩ := List.nodup_cons.1 h
    have := ih h2
    unfold rmvP at this ⊢
    by_cases hx : x = p
    · subst hx
      rw [List.filter_cons_of_neg (by simp), List.filter_eq_self.2]
      · simp
      · intro y hy
        simp
        rintro rfl
        exact h1 hy
    · rw [List.filter_cons_of_pos (by simp [hx])]
      simp only [List.length_cons]
      omega
theorem rmvP_nodup (U : List Place) (p : Place) (h : U.Nodup) : (rmvP U p ++ [p]).Nodup := by
  rw [List.nodup_append]
  refine ⟨h.filter _, by simp, ?_⟩
  intro a ha b hb
  rw [List.mem_singleton] at hb
  subst hb
  have := (List.mem_filter.1 ha).2
  simpa using this
theorem lastN_len {α : Type} (n : Nat) (l : List α) : (lastN n l).length = min n l.length := by
  unfold lastN; rw [List.length_drop]; omega
theorem lastN_app {α : Type} (n : Nat) (X Y : List α) (h : n ≤ Y.length) : lastN n (X ++ Y) = Y.drop (Y.length - n) := by
  unfold lastN
  rw [List.length_append, List.drop_append]
  rw [List.drop_of_length_le (by omega), List.nil_append]
  congr 1
  omega
theorem lastN_core (n : Nat) (U : List Place) (p : Place) (hnd : U.Nodup) :
    lastN n (rmvP U p ++ [p]) = if n < (rmvP (lastN n U) p).length + 1 then (rmvP (lastN n U) p ++ [p]).drop 1 else rmvP (lastN n U) p ++ [p] := by
  have hU : rmvP U p = rmvP (U.take (U.length - n)) p ++ rmvP (lastN n U) p := by
    unfold rmvP lastN
    rw [← List.filter_append, List.take_append_drop]
  have hkl := lastN_len n U
  have h1 := rmvP_le (lastN n U) p
  have h2 := rmvP_ge (lastN n U) p (by unfold lastN; exact hnd.sublist (List.drop_sublist _ _))
  have h3 := rmvP_le (U.take (U.length - n)) p
  rw [List.length_take] at h3
  rw [hU, List.append_assoc]
  generalize rmvP (lastN n U) p = A at *
  generalize rmvP (U.take (U.length - n)) p = X at *
  have hA : (A ++ [p]).length = A.length + 1 := by simp
  by_cases hn : n < A.length + 1
  · rw [if_pos hn, lastN_app _ _ _ (by omega), hA]
    congr 1
    omega
  · rw [if_neg hn]
    by_cases he : n = A.length + 1
    · rw [lastN_app _ _ _ (by omega), hA, he, Nat.sub_self, List.drop_zero]
    · have : X = [] := List.length_eq_zero_iff.1 (by omega)
      subst this
      unfold lastN
      rw [List.nil_append, hA, show A.length + 1 - n = 0 by omega, List.drop_zero]
theorem recent_put (n : Nat) (U : List Place) (p : Place) (L : List Pg) (c : ByteArray × Int) (hnd : U.Nodup) (hK : keys L = lastN n U) : keys (putS n L p c) = lastN n (rmvP U p ++ [p]) := by
  rw [lastN_core n U p hnd, ← hK, ← keys_rmv, keys_len]
  unfold putS
  by_cases h : n < (rmv L p).length + 1
  · rw [if_pos (by omega), if_pos h, ← keys_snoc]
    unfold keys
    rw [List.map_drop]
  · rw [if_neg (by omega), if_neg h, keys_snoc]
theorem recent_get (n : Nat) (U : List Place) (p : Place) (L : List Pg) (c : ByteArray × Int) (hnd : U.Nodup) (hK : keys L = lastN n U) (hp : look L p = some c) : keys (rmv L p ++ [(p, c)]) = lastN n (rmvP U p ++ [p]) := by
  have h1 := rmv_lt L p (look_some_mem L p c hp)
  have h2 : L.length ≤ n := by
    have := lastN_len n U
    rw [← hK, keys_len] at this
    omega
  rw [lastN_core n U p hnd, ← hK, ← keys_rmv, keys_len, if_neg (by omega), keys_snoc]
/-- The pool and the places as they were used last, behind one call. -/
def stepR (n : Nat) (s : St × List Place) (o : Opn) : St × List Place :=
  if o.kind = 0 then (match look s.1.pages (o.id, o.page) with
    | some c => (⟨rmv s.1.pages (o.id, o.page) ++ [((o.id, o.page), c)], s.1.hits + 1, s.1.misses⟩, rmvP s.2 (o.id, o.page) ++ [(o.id, o.page)])
    | none => (⟨s.1.pages, s.1.hits, s.1.misses + 1⟩, s.2))
  else if o.kind = 1 then (⟨putS n s.1.pages (o.id, o.page) (o.data, o.ver), s.1.hits, s.1.misses⟩, rmvP s.2 (o.id, o.page) ++ [(o.id, o.page)])
  else s
theorem stepR_fst (n : Nat) (s : St × List Place) (o : Opn) (h : o.kind = 0 ∨ o.kind = 1) : (stepR n s o).1 = stepO n s.1 o := by
  unfold stepR stepO
  by_cases h0 : o.kind = 0
  · rw [if_pos h0, if_pos h0]
    cases look s.1.pages (o.id, o.page) <;> rfl
  · have h1 : o.kind = 1 := h.resolve_left h0
    rw [if_neg h0, if_neg h0, if_pos h1, if_pos h1]
structure Recent (n : Nat) (s : St × List Place) (k : Nat) : Prop where
  sound : Sound n s.1 k
  keys : keys s.1.pages = lastN n s.2
  nodup : s.2.Nodup
  len : s.2.length ≤ k
theorem Recent.step {n : Nat} {s : St × List Place} {k : Nat} (h : Recent n s k) (hn : 1 ≤ n) (o : Opn) : Recent n (stepR n s o) (k + 1) := by
  have hlen := rmvP_le s.2 (o.id, o.page)
  have hl := h.len
  by_cases h0 : o.kind = 0
  · have hs := h.sound.step (by omega) o
    rw [← stepR_fst n s o (.inl h0)] at hs
    refine ⟨hs, ?_, ?_, ?_⟩
    · unfold stepR
      rw [if_pos h0]
      cases hk : look s.1.pages (o.id, o.page) with
      | none => exact h.keys
      | some c => exact recent_get n s.2 _ _ c h.nodup h.keys hk
    · unfold stepR
      rw [if_pos h0]
      cases hk : look s.1.pages (o.id, o.page) with
      | none => exact h.nodup
      | some c => exact rmvP_nodup _ _ h.nodup
    · unfold stepR
      rw [if_pos h0]
      cases hk : look s.1.pages (o.id, o.page) with
      | none => show s.2.length ≤ k + 1; omega
      | some c => show (rmvP s.2 (o.id, o.page) ++ [(o.id, o.page)]).length ≤ k + 1; rw [List.length_append, List.length_singleton]; omega
  · by_cases h1 : o.kind = 1
    · have hs := h.sound.step (by omega) o
      rw [← stepR_fst n s o (.inr h1)] at hs
      refine ⟨hs, ?_, ?_, ?_⟩
      · unfold stepR
        rw [if_neg h0, if_pos h1]
        exact recent_put n s.2 _ _ _ h.nodup h.keys
      · unfold stepR
        rw [if_neg h0, if_pos h1]
        exact rmvP_nodup _ _ h.nodup
      · unfold stepR
        rw [if_neg h0, if_pos h1]
        show (rmvP s.2 (o.id, o.page) ++ [(o.id, o.page)]).length ≤ k + 1
        rw [List.length_append, List.length_singleton]; omega
    · have : stepR n s o = s := by unfold stepR; rw [if_neg h0, if_neg h1]
      rw [this]
      obtain ⟨⟨a, b, c, d, e⟩, f, g, i⟩ := h
      exact ⟨⟨a, b, c, by omega, by omega⟩, f, g, by omega⟩
def runR (n : Nat) (l : List Opn) : Nat → St × List Place
  | 0 => (⟨[], 0, 0⟩, [])
  | k + 1 => stepR n (runR n l k) (l[k]?.getD default)
theorem runR_succ (n : Nat) (l : List Opn) (k : Nat) (hk : k < l.length) : runR n l (k + 1) = stepR n (runR n l k) l[k] := by
  rw [runR, List.getElem?_eq_getElem hk]; rfl
theorem runR_recent (n : Nat) (l : List Opn) (hn : 1 ≤ n) : ∀ k, Recent n (runR n l k) k := by
  intro k
  induction k with
  | zero => exact ⟨⟨by simp [runR], by simp [runR], by simp [runR], by simp [runR], by simp [runR]⟩, by simp [runR, keys, lastN], by simp [runR], by simp [runR]⟩
  | succ k ih => exact ih.step hn _
theorem OwnL.rebase {w : World} {base base' e sz : Nat} {v : Value} {rows : List (List Value)} (h : OwnL w base e sz v rows) (hb : base' ≤ base) : OwnL w base' e sz v rows := by
  refine ⟨h.1, h.2.1, ?_⟩
  rcases h.2.2 with h0 | ⟨g, cap, cur, hv, hbb, hh, hr⟩
  · exact .inl h0
  · exact .inr ⟨g, cap, cur, hv, by omega, hh, hr⟩
end Go.Proofs.Ytfmhiocigoejjaa
