/- The pool in memory; forget. -/
import Derived.Test.YtfmhiocigoejjaaBufB
namespace Go.Proofs.Ytfmhiocigoejjaa
set_option linter.unusedVariables false
set_option linter.unusedSimpArgs false
set_option linter.unusedSectionVars false
open Go.RowKit
open Go.Maps (Keyed)
abbrev Pg := Place × (ByteArray × Int)
def keys (L : List Pg) : List Place := L.map (·.1)
def look (L : List Pg) (p : Place) : Option (ByteArray × Int) := (L.find? (fun x => decide (x.1 = p))).map (·.2)
def FOf (L : List Pg) (p : Place) : Option Value := (look L p).map fun c => contentV c.1 c.2
theorem look_none (L : List Pg) (p : Place) (h : p ∉ keys L) : look L p = none := by
  unfold look
  rw [List.find?_eq_none.2]
  · rfl
  · intro x hx
    rw [decide_eq_true_eq]
    rintro rfl
    exact h (List.mem_map_of_mem hx)
theorem look_mem (L : List Pg) (p : Place) (h : p ∈ keys L) : ∃ c, look L p = some c := by
  obtain ⟨x, hx, rfl⟩ := List.mem_map.1 h
  unfold look
  cases hf : L.find? (fun y => decide (y.1 = x.1)) with
  | none => exact absurd (List.find?_eq_none.1 hf x hx) (by simp)
  | some y => exact ⟨y.2, rfl⟩
theorem look_filter (L : List Pg) (q : Place → Bool) (p : Place) : look (L.filter fun x => !q x.1) p = if q p then none else look L p := by
  induction L with
  | nil => simp [look]
  | cons x L ih =>
    unfold look at ih ⊢
    rw [List.filter_cons]
    by_cases hxp : x.1 = p
    · cases hq : q x.1 with
      | true =>
        rw [hxp] at hq
        simp only [hxp, hq, Bool.not_true, Bool.false_eq_true, if_false, if_true] at ih ⊢
        exact ih
      | false =>
        rw [hxp] at hq
        simp [List.find?_cons, hxp, hq]
    · cases hq : q x.1 with
      | true =>
        simp only [hq, Bool.not_true, Bool.false_eq_true, if_false]
        rw [ih, List.find?_cons_of_neg (by simp [hxp])]
      | false =>
        simp only [hq, Bool.not_false, if_true]
        rw [List.find?_cons_of_neg (by simp [hxp]), List.find?_cons_of_neg (by simp [hxp])]
        exact ih
theorem keys_filter (L : List Pg) (q : Place → Bool) : keys (L.filter fun x => !q x.1) = (keys L).filter fun p => !q p := by
  unfold keys
  rw [List.filter_map]
  rfl
/-- What the map holds when the first j places have been asked. -/
def FTo (L : List Pg) (q : Place → Bool) (j : Nat) (p : Place) : Option Value := if p ∈ (keys L).take j ∧ q p = true then none else FOf L p
theorem FTo_zero (L : List Pg) (q : Place → Bool) (p : Place) : FTo L q 0 p = FOf L p := by unfold FTo; rw [if_neg (by simp)]
theorem FTo_at (L : List Pg) (q : Place → Bool) (hnd : (keys L).Nodup) (j : Nat) (hj : j < (keys L).length) : FTo L q j (keys L)[j] = FOf L (keys L)[j] := by
  unfold FTo
  rw [if_neg]
  rintro ⟨h, _⟩
  obtain ⟨i, hi, he⟩ := List.mem_take_iff_getElem.1 h
  have := nodup_at hnd (List.getElem?_eq_getElem (show i < (keys L).length by omega)) (by rw [List.getElem?_eq_getElem hj, he])
  omega
theorem FTo_succ (L : List Pg) (q : Place → Bool) (j : Nat) (hj : j < (keys L).length) (p : Place) : FTo L q (j + 1) p = (if q (keys L)[j] = true then upd (FTo L q j) (keys L)[j] none else FTo L q j) p := by
  unfold FTo
  rw [List.take_succ_eq_append_getElem hj]
  by_cases hq : q (keys L)[j] = true
  · rw [if_pos hq]
    by_cases hp : p = (keys L)[j]
    · subst hp
      rw [upd_same, if_pos ⟨List.mem_append_right _ (List.mem_singleton.2 rfl), hq⟩]
    · rw [upd_other _ _ hp]
      have : (p ∈ (keys L).take j ++ [(keys L)[j]] ∧ q p = true) = (p ∈ (keys L).take j ∧ q p = true) := by
        rw [List.mem_append, List.mem_singleton]; simp [hp]
      simp only [this]
  · rw [if_neg hq]
    by_cases hp : p = (keys L)[j]
    · subst hp
      rw [if_neg (by simp [hq]), if_neg (by simp [hq])]
    · have : (p ∈ (keys L).take j ++ [(keys L)[j]] ∧ q p = true) = (p ∈ (keys L).take j ∧ q p = true) := by
        rw [List.mem_append, List.mem_singleton]; simp [hp]
      simp only [this]
theorem FTo_end (L : List Pg) (q : Place → Bool) (p : Place) : FTo L q (keys L).length p = FOf (L.filter fun x => !q x.1) p := by
  unfold FTo FOf
  rw [List.take_length, look_filter]
  by_cases hq : q p = true
  · rw [if_pos hq]
    by_cases hp : p ∈ keys L
    · rw [if_pos ⟨hp, hq⟩]; rfl
    · rw [if_neg (fun h => hp h.1), look_none L p hp]
  · rw [if_neg (fun h => hq h.2), if_neg hq]
/-- The pool: its struct, its map and its order. -/
structure PoolM (w : World) (base x m : Nat) (v : Value) (cap : Int) (L : List Pg) (h ms : Int) : Prop where
  blk : Blk w x 61 #[.int .i64 cap, .map (some m), v, .int .i64 h, .int .i64 ms]
  map : MapP w m (FOf L)
  own : OwnL w base 40 2 v ((keys L).map placeC)
  bx : base ≤ x
  bm : base ≤ m
  nd : (keys L).Nodup
  ok : ∀ p ∈ keys L, okPlace p
theorem own_map_ne {w : World} {base m : Nat} {v : Value} {rows : List (List Value)} {F : Place → Option Value} (h : OwnL w base 40 2 v rows) (hm : MapP w m F) : v.ownBlock ≠ some m := by
  rcases h.2.2 with ⟨rfl, _⟩ | ⟨g', cap, cur, rfl, _, hh, _⟩
  · simp [Value.ownBlock]
  · intro he
    have e : g' = m := by simpa [Value.ownBlock] using he
    subst e
    exact blk_map_ne (t := 40) (cs := cur) hh hm rfl
theorem keys_len (L : List Pg) : (keys L).length = L.length := by simp [keys]
theorem placeC_len (l : List Place) : (l.map placeC).length = l.length := by simp
set_option maxRecDepth 100000 in
set_option maxHeartbeats 1000000 in
theorem indexFunc_nil (fv : Value) (w : World) : Calls Try.prog 39 #[.slice none 0 0, fv] w fun e w' => e = .returned (.int .i64 (-1)) ∧ w = w' := by
  go_enter Try.func39, Try.ntmps39
  go_wp2_with fail
  go_loopg [8] 0 (fun gk i wr => gk = 0 ∧ i = .int .i64 0 ∧ w = wr)
  case atStart => exact ⟨rfl, rfl, rfl⟩
  case round =>
    obtain ⟨_, rfl, rfl⟩ := hrel
    go_wp2_with fail
    go_ret
    exact ⟨rfl, rfl⟩
set_option maxRecDepth 100000 in
set_option maxHeartbeats 1000000 in
theorem deleteFunc_nil (fv : Value) (w : World) : Calls Try.prog 35 #[.slice none 0 0, fv] w fun e w' => e = .returned (.slice none 0 0) ∧ w = w' := by
  go_enter Try.func35, Try.ntmps35
  go_wp2_with fail
  refine (indexFunc_nil fv _).mono ?_
  rintro e w1 ⟨rfl, rfl⟩
  go_wp2_with fail
  go_ret
  exact ⟨rfl, rfl⟩
end Go.Proofs.Ytfmhiocigoejjaa
