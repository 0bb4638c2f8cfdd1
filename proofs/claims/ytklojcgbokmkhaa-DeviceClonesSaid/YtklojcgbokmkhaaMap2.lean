/- A map of the call's own, as a function of its keys. -/
import Derived.Test.YtklojcgbokmkhaaFrame
import Derived.Maps.Own
import Derived.Maps.OwnSet
import Derived.Maps.RangeWalk
namespace Go.Proofs.Ytklojcgbokmkhaa
set_option linter.unusedVariables false
set_option linter.unusedSimpArgs false
set_option linter.unusedSectionVars false
open Go.RowKit Go.MapKept
open Go.Maps (Keyed)
/-- A function of keys, changed at one. -/
def upd {α β : Type} [DecidableEq α] (F : α → β) (a : α) (b : β) : α → β := fun x => if x = a then b else F x
theorem upd_same {α β : Type} [DecidableEq α] (F : α → β) (a : α) (b : β) : upd F a b a = b := if_pos rfl
theorem upd_other {α β : Type} [DecidableEq α] (F : α → β) {a x : α} (b : β) (h : x ≠ a) : upd F a b x = F x := if_neg h
theorem nodup_at {α : Type} {l : List α} (h : l.Nodup) {i j : Nat} {a : α} (hi : l[i]? = some a) (hj : l[j]? = some a) : i = j := by
  obtain ⟨hi1, e1⟩ := List.getElem?_eq_some_iff.1 hi
  obtain ⟨hj1, e2⟩ := List.getElem?_eq_some_iff.1 hj
  rcases Nat.lt_trichotomy i j with h1 | h1 | h1
  · exact absurd (e1.trans e2.symm) (List.pairwise_iff_getElem.1 h i j hi1 hj1 h1)
  · exact h1
  · exact absurd (e2.trans e1.symm) (List.pairwise_iff_getElem.1 h j i hj1 hi1 h1)
theorem map_erase {α β : Type} (f : α → β) (l : List α) (i : Nat) : (l.eraseIdx i).map f = (l.map f).eraseIdx i := by
  induction l generalizing i with
  | nil => rfl
  | cons x l ih => cases i with
    | zero => rfl
    | succ i => simp [List.eraseIdx, ih]
/-- Block m is a map whose keys are 'kv a'; at a it holds F a. -/
def MapIs {α : Type} (P : Program) (k : TypeId) (kv : α → Value) (w : World) (m : Nat) (F : α → Option Value) : Prop :=
  ∃ (es : Array MapEntry) (clock : Nat) (l : List (α × Value)), w.heap[m]? = some (.map es clock) ∧ es.toList.map (fun e => (e.key, e.val)) = l.map (fun p => (kv p.1, p.2)) ∧ (l.map (·.1)).Nodup ∧ (∀ p ∈ l, ∃ x, keyOf P k (kv p.1) = some x) ∧ (∀ a v, F a = some v ↔ (a, v) ∈ l) ∧ (∀ x ∈ es.toList, x.born < clock) ∧ (es.toList.map (·.born)).Nodup
section
variable {α : Type} {P : Program} {k : TypeId} {kv : α → Value} {w w' : World} {m : Nat} {F : α → Option Value}
theorem MapIs.lt (h : MapIs P k kv w m F) : m < w.heap.size := by
  obtain ⟨es, clock, l, hb, _⟩ := h
  rcases Nat.lt_or_ge m w.heap.size with hlt | hge
  · exact hlt
  · rw [Array.getElem?_eq_none hge] at hb; cases hb
theorem MapIs.same (h : MapIs P k kv w m F) (e : w'.heap[m]? = w.heap[m]?) : MapIs P k kv w' m F := by
  obtain ⟨es, clock, l, hb, hr⟩ := h
  exact ⟨es, clock, l, e.trans hb, hr⟩
theorem MapIs.alloc (h : MapIs P k kv w m F) (o : Obj) : MapIs P k kv (w.alloc o) m F := h.same (Below.heap_alloc w o m h.lt)
theorem MapIs.drew (h : MapIs P k kv w m F) : MapIs P k kv w.drew m F := h
theorem MapIs.drewN (h : MapIs P k kv w m F) (n : Nat) : MapIs P k kv (w.drewN n) m F := h
theorem MapIs.far (h : MapIs P k kv w m F) {p : Addr} (hp : m ≠ p.block) (u : Value) : MapIs P k kv (w.setCell p u) m F := h.same (Below.heap_setCell w p u m hp)
theorem MapIs.turned (h : MapIs P k kv w m F) {S : Nat → Prop} (ht : Turned S w w') (hS : ¬ S m) : MapIs P k kv w' m F := h.same (ht.block m h.lt hS)
theorem MapIs.grew (h : MapIs P k kv w m F) (hg : Grew w w') : MapIs P k kv w' m F := h.same (hg.block m h.lt)
theorem MapIs.grown (h : MapIs P k kv w m F) {row : Option Nat} (hg : w.grownBy w' row) (hne : row ≠ some m) : MapIs P k kv w' m F := h.same (hg.block m h.lt (fun e => hne e.symm))
theorem MapIs.congr (h : MapIs P k kv w m F) {G : α → Option Value} (e : ∀ a, F a = G a) : MapIs P k kv w m G := by
  have : F = G := funext e
  rwa [← this]
theorem MapIs.made (w : World) {n : Nat} (hn : n = w.heap.size) : MapIs P k kv (w.alloc (.map #[] 0)) n (fun _ => none) := by
  subst hn
  exact ⟨#[], 0, [], heap_alloc_new w _, rfl, by simp, by simp, by simp, by simp, by simp⟩
theorem heap_set_other (w : World) (m i : Nat) (o : Obj) (h : i ≠ m) : (w.heap.setIfInBounds m o)[i]? = w.heap[i]? := by
  rw [Array.getElem?_setIfInBounds]; rw [if_neg (fun e => h e.symm)]
theorem heap_set_self (w : World) (m : Nat) (o : Obj) (h : m < w.heap.size) : (w.heap.setIfInBounds m o)[m]? = some o := by
  rw [Array.getElem?_setIfInBounds, if_pos rfl, if_pos h]
theorem setObj_turned (w : World) (m : Nat) (o : Obj) : Turned (fun x => x = m) w { w with heap := w.heap.setIfInBounds m o } :=
  ⟨rfl, rfl, rfl, by simp, fun i _ hi => heap_set_other w m i o hi⟩
variable (K : Keyed P k) (hinj : ∀ a b, kv a = kv b → a = b)
include K hinj
/-- The entry of a key. -/
theorem find_is {es : Array MapEntry} {l : List (α × Value)} (he : es.toList.map (fun e => (e.key, e.val)) = l.map (fun p => (kv p.1, p.2))) (hnd : (l.map (·.1)).Nodup) (hok : ∀ p ∈ l, ∃ x, keyOf P k (kv p.1) = some x)
    (hF : ∀ a v, F a = some v ↔ (a, v) ∈ l) (w : World) (a : α) {x : Lit} (hx : keyOf P k (kv a) = some x) :
    ((Instr.findKey k (kv a) es.toList).run P w = .ok none w ∧ F a = none) ∨ ∃ j v, (Instr.findKey k (kv a) es.toList).run P w = .ok (some (j, v)) w ∧ F a = some v ∧ l[j]? = some (a, v) := by
  have hall : ∀ e ∈ es.toList, ∃ l, keyOf P k e.key = some l := by
    intro e hee
    have hm : (e.key, e.val) ∈ es.toList.map (fun e => (e.key, e.val)) := List.mem_map_of_mem hee
    rw [he] at hm
    obtain ⟨p, hp, hpe⟩ := List.mem_map.1 hm
    injection hpe with h1 _
    rw [← h1]
    exact hok p hp
  rcases K.find w hx es.toList hall with ⟨h1, h2⟩ | ⟨j, e, h1, h2, h3⟩
  · refine .inl ⟨h1, ?_⟩
    cases hFa : F a with
    | none => rfl
    | some v =>
      exfalso
      have hm := (hF a v).1 hFa
      have hm' : (kv a, v) ∈ l.map (fun p => (kv p.1, p.2)) := List.mem_map.2 ⟨(a, v), hm, rfl⟩
      rw [← he] at hm'
      obtain ⟨e, hee, hek⟩ := List.mem_map.1 hm'
      injection hek with hk1 _
      exact h2 e hee hk1
  · refine .inr ⟨j, e.val, h1, ?_, ?_⟩
    · have hj : (es.toList.map (fun e => (e.key, e.val)))[j]? = some (e.key, e.val) := by rw [List.getElem?_map, h2]; rfl
      rw [he, List.getElem?_map] at hj
      cases hq : l[j]? with
      | none => rw [hq] at hj; cases hj
      | some p =>
        rw [hq] at hj
        injection hj with hj
        injection hj with hj1 hj2
        have hpa : p.1 = a := hinj _ _ (hj1.trans h3)
        exact (hF a e.val).2 (by rw [← hpa, ← hj2]; exact List.mem_of_getElem? hq)
    · have hj : (es.toList.map (fun e => (e.key, e.val)))[j]? = some (e.key, e.val) := by rw [List.getElem?_map, h2]; rfl
      rw [he, List.getElem?_map] at hj
      cases hq : l[j]? with
      | none => rw [hq] at hj; cases hj
      | some p =>
        rw [hq] at hj
        injection hj with hj
        injection hj with hj1 hj2
        have hpa : p.1 = a := hinj _ _ (hj1.trans h3)
        rw [← hpa, ← hj2]
theorem MapIs.lookup_ok (h : MapIs P k kv w m F) {t e : TypeId} {z : Value} (ht : P.underlying t = some (.map k e)) (hz : (zeroValue e).run P w = .ok z w) (a : α) {x : Lit} (hx : keyOf P k (kv a) = some x) :
    (Instr.lookup t (.map (some m)) (kv a) true).run P w = .ok (.tuple #[(F a).getD z, .bool (F a).isSome]) w := by
  obtain ⟨es, clock, l, hb, he, hnd, hok, hF, hS1, hS2⟩ := h
  rcases find_is K hinj he hnd hok hF w a hx with ⟨h1, h2⟩ | ⟨j, v, h1, h2, _⟩
  · simp [Instr.lookup, run_underlying ht, Go.MapKept.run_getObj_map hb, K.check w _ hx, h1, h2, hz]
  · simp [Instr.lookup, run_underlying ht, Go.MapKept.run_getObj_map hb, K.check w _ hx, h1, h2]
theorem MapIs.lookup_val (h : MapIs P k kv w m F) {t e : TypeId} {z : Value} (ht : P.underlying t = some (.map k e)) (hz : (zeroValue e).run P w = .ok z w) (a : α) {x : Lit} (hx : keyOf P k (kv a) = some x) :
    (Instr.lookup t (.map (some m)) (kv a) false).run P w = .ok ((F a).getD z) w := by
  obtain ⟨es, clock, l, hb, he, hnd, hok, hF, hS1, hS2⟩ := h
  rcases find_is K hinj he hnd hok hF w a hx with ⟨h1, h2⟩ | ⟨j, v, h1, h2, _⟩
  · simp [Instr.lookup, run_underlying ht, Go.MapKept.run_getObj_map hb, K.check w _ hx, h1, h2, hz]
  · simp [Instr.lookup, run_underlying ht, Go.MapKept.run_getObj_map hb, K.check w _ hx, h1, h2]
theorem MapIs.update [DecidableEq α] (h : MapIs P k kv w m F) {t e : TypeId} (ht : P.underlying t = some (.map k e)) (a : α) {x : Lit} (hx : keyOf P k (kv a) = some x) (v : Value) :
    ∃ w', (Instr.mapUpdate t (.map (some m)) (kv a) v).run P w = .ok () w' ∧ MapIs P k kv w' m (upd F a (some v)) ∧ Turned (fun x => x = m) w w' := by
  obtain ⟨es, clock, l, hb, he, hnd, hok, hF, hS1, hS2⟩ := h
  have hlt : m < w.heap.size := MapIs.lt (P := P) (k := k) (kv := kv) (F := F) ⟨es, clock, l, hb, he, hnd, hok, hF, hS1, hS2⟩
  rcases find_is K hinj he hnd hok hF w a hx with ⟨h1, h2⟩ | ⟨j, v0, h1, h2, hj⟩
  · refine ⟨_, ?_, ?_, setObj_turned w m (.map (es.push { key := kv a, val := v, born := clock }) (clock + 1))⟩
    · simp [Instr.mapUpdate, run_underlying ht, Go.MapKept.run_getObj_map hb, K.check w _ hx, h1, Go.MapKept.run_setObj_map _ hb]
    · have hna : ∀ v, (a, v) ∉ l := fun v hv => by have := (hF a v).2 hv; rw [h2] at this; cases this
      refine ⟨_, _, l ++ [(a, v)], heap_set_self w m _ hlt, by simp [he], ?_, ?_, ?_, ?_, ?_⟩
      · rw [List.map_append, List.nodup_append]
        refine ⟨hnd, by simp, fun y hy z hz e => ?_⟩
        simp at hz
        subst hz
        subst e
        obtain ⟨p, hp, hpe⟩ := List.mem_map.1 hy
        exact hna p.2 (by rw [← hpe]; exact hp)
      · intro p hp
        rcases List.mem_append.1 hp with hp | hp
        · exact hok p hp
        · rw [List.mem_singleton.1 hp]; exact ⟨x, hx⟩
      · intro b u
        rw [List.mem_append]
        by_cases hba : b = a
        · subst hba
          rw [upd_same]
          simp [hna]
          exact eq_comm
        · rw [upd_other _ _ hba, hF b u]
          simp [hba]
      · intro y hy
        rw [Array.toList_push] at hy
        rcases List.mem_append.1 hy with hy | hy
        · have := hS1 y hy; omega
        · rw [List.mem_singleton.1 hy]; exact Nat.lt_succ_self _
      · rw [Array.toList_push, List.map_append, List.nodup_append]
        refine ⟨hS2, by simp, fun y hy z hz e => ?_⟩
        simp at hz
        subst hz
        subst e
        obtain ⟨q, hq, hqe⟩ := List.mem_map.1 hy
        have := hS1 q hq
        omega
  · have hjl : j < es.size := by
      have := (List.getElem?_eq_some_iff.1 hj).1
      have hlen := congrArg List.length he
      simp at hlen
      omega
    have hkj : (es[j]'hjl).key = kv a := by
      have hq : (es.toList.map (fun e => (e.key, e.val)))[j]? = (l.map (fun p => (kv p.1, p.2)))[j]? := by rw [he]
      rw [List.getElem?_map, List.getElem?_map, hj] at hq
      rw [Array.getElem?_toList, Array.getElem?_eq_getElem hjl] at hq
      simp at hq
      exact hq.1
    refine ⟨_, ?_, ?_, setObj_turned w m (.map (es.modify j fun e => { e with key := kv a, val := v }) clock)⟩
    · simp [Instr.mapUpdate, run_underlying ht, Go.MapKept.run_getObj_map hb, K.check w _ hx, h1, Go.MapKept.run_setObj_map _ hb, hjl, hkj, K.stays w hx]
    · have hbo : (es.modify j fun e => { e with key := kv a, val := v }).toList.map (·.born) = es.toList.map (·.born) := by
        apply List.ext_getElem?
        intro i
        rw [List.getElem?_map, List.getElem?_map, Array.getElem?_toList, Array.getElem?_toList, Array.getElem?_modify]
        by_cases hij : j = i
        · subst hij
          rw [if_pos rfl, Array.getElem?_eq_getElem hjl]; rfl
        · rw [if_neg hij]
      refine ⟨_, _, l.set j (a, v), heap_set_self w m _ hlt, ?_, ?_, ?_, ?_, ?_, by rw [hbo]; exact hS2⟩
      · apply List.ext_getElem?
        intro i
        have hi := congrArg (fun z => z[i]?) he
        simp only [List.getElem?_map, Array.getElem?_toList] at hi
        rw [List.getElem?_map, List.getElem?_map, Array.getElem?_toList, Array.getElem?_modify, List.getElem?_set]
        by_cases hij : j = i
        · subst hij
          rw [if_pos rfl, if_pos rfl, if_pos (List.getElem?_eq_some_iff.1 hj).1, Array.getElem?_eq_getElem hjl]
          rfl
        · rw [if_neg hij, if_neg hij]
          exact hi
      · rw [List.map_set]
        have : (l.map (·.1)).set j a = l.map (·.1) := by
          apply List.ext_getElem?
          intro i
          rw [List.getElem?_set]
          by_cases hij : j = i
          · subst hij
            rw [if_pos rfl, List.getElem?_map, hj]
            have : j < (l.map (·.1)).length := by rw [List.length_map]; exact (List.getElem?_eq_some_iff.1 hj).1
            rw [if_pos this]
            rfl
          · rw [if_neg hij]
        rw [this]
        exact hnd
      · intro p hp
        rcases List.mem_or_eq_of_mem_set hp with hp | rfl
        · exact hok p hp
        · exact ⟨x, hx⟩
      · intro b u
        have hjl2 := (List.getElem?_eq_some_iff.1 hj).1
        have huniq : ∀ i q, l[i]? = some q → q.1 = a → i = j := by
          intro i q hi hq
          have h1 : (l.map (·.1))[i]? = some a := by rw [List.getElem?_map, hi]; simp [hq]
          have h2 : (l.map (·.1))[j]? = some a := by rw [List.getElem?_map, hj]; rfl
          exact nodup_at hnd h1 h2
        by_cases hba : b = a
        · subst hba
          rw [upd_same, List.mem_iff_getElem?]
          constructor
          · intro e
            injection e with e
            subst e
            exact ⟨j, by rw [List.getElem?_set_self hjl2]⟩
          · rintro ⟨i, hi⟩
            rw [List.getElem?_set] at hi
            by_cases hij : j = i
            · rw [if_pos hij, if_pos (by omega)] at hi
              injection hi with hi
              injection hi with _ hi
              rw [hi]
            · rw [if_neg hij] at hi
              exact absurd (huniq i _ hi rfl).symm hij
        · rw [upd_other _ _ hba, hF b u, List.mem_iff_getElem?, List.mem_iff_getElem?]
          constructor
          · rintro ⟨i, hi⟩
            refine ⟨i, ?_⟩
            rw [List.getElem?_set, if_neg]
            · exact hi
            · rintro rfl
              rw [hj] at hi
              injection hi with hi
              injection hi with hi _
              exact hba hi.symm
          · rintro ⟨i, hi⟩
            rw [List.getElem?_set] at hi
            by_cases hij : j = i
            · rw [if_pos hij, if_pos (by omega)] at hi
              injection hi with hi
              injection hi with hi _
              exact absurd hi.symm hba
            · rw [if_neg hij] at hi
              exact ⟨i, hi⟩
      · intro y hy
        have h9 : y.born ∈ es.toList.map (·.born) := by rw [← hbo]; exact List.mem_map_of_mem hy
        obtain ⟨q, hq, hqe⟩ := List.mem_map.1 h9
        have := hS1 q hq
        omega
theorem MapIs.delete [DecidableEq α] (h : MapIs P k kv w m F) {t e : TypeId} (ht : P.underlying t = some (.map k e)) (a : α) {x : Lit} (hx : keyOf P k (kv a) = some x) (ty : TypeId) :
    ∃ w', (Builtin.delete_ #[t, k] ty #[.map (some m), kv a]).run P w = .ok (.tuple #[]) w' ∧ MapIs P k kv w' m (upd F a none) ∧ Turned (fun x => x = m) w w' := by
  obtain ⟨es, clock, l, hb, he, hnd, hok, hF, hS1, hS2⟩ := h
  have hlt : m < w.heap.size := MapIs.lt (P := P) (k := k) (kv := kv) (F := F) ⟨es, clock, l, hb, he, hnd, hok, hF, hS1, hS2⟩
  rcases find_is K hinj he hnd hok hF w a hx with ⟨h1, h2⟩ | ⟨j, v0, h1, h2, hj⟩
  · refine ⟨_, ?_, ?_, setObj_turned w m (.map es clock)⟩
    · simp [Builtin.delete_, run_underlying ht, Go.MapKept.run_getObj_map hb, K.check w _ hx, h1, Go.MapKept.run_setObj_map _ hb]
    · refine ⟨_, _, l, heap_set_self w m _ hlt, he, hnd, hok, fun b u => ?_, hS1, hS2⟩
      by_cases hba : b = a
      · subst hba; rw [upd_same, ← hF b u, h2]
      · rw [upd_other _ _ hba]; exact hF b u
  · have hjl2 := (List.getElem?_eq_some_iff.1 hj).1
    have hjl : j < es.size := by
      have hlen := congrArg List.length he
      simp at hlen
      omega
    refine ⟨_, ?_, ?_, setObj_turned w m (.map (es.eraseIdxIfInBounds j) clock)⟩
    · simp [Builtin.delete_, run_underlying ht, Go.MapKept.run_getObj_map hb, K.check w _ hx, h1, Go.MapKept.run_setObj_map _ hb]
    · refine ⟨_, _, l.eraseIdx j, heap_set_self w m _ hlt, ?_, ?_, ?_, ?_, (by rw [Array.eraseIdxIfInBounds, dif_pos hjl, Array.toList_eraseIdx]; exact fun y hy => hS1 y (List.mem_of_mem_eraseIdx hy)), (by rw [Array.eraseIdxIfInBounds, dif_pos hjl, Array.toList_eraseIdx, map_erase]; exact hS2.eraseIdx j)⟩
      · rw [Array.eraseIdxIfInBounds, dif_pos hjl, Array.toList_eraseIdx, map_erase, he, map_erase]
      · rw [map_erase]
        exact hnd.eraseIdx j
      · intro p hp
        exact hok p (List.mem_of_mem_eraseIdx hp)
      · intro b u
        have huniq : ∀ i q, l[i]? = some q → q.1 = a → i = j := by
          intro i q hi hq
          have h1 : (l.map (·.1))[i]? = some a := by rw [List.getElem?_map, hi]; simp [hq]
          have h2 : (l.map (·.1))[j]? = some a := by rw [List.getElem?_map, hj]; rfl
          exact nodup_at hnd h1 h2
        rw [List.mem_eraseIdx_iff_getElem?]
        by_cases hba : b = a
        · subst hba
          rw [upd_same]
          constructor
          · intro e; cases e
          · rintro ⟨i, hne, hi⟩
            exact absurd (huniq i _ hi rfl) hne
        · rw [upd_other _ _ hba, hF b u, List.mem_iff_getElem?]
          constructor
          · rintro ⟨i, hi⟩
            refine ⟨i, ?_, hi⟩
            rintro rfl
            rw [hj] at hi
            injection hi with hi
            injection hi with hi _
            exact hba hi.symm
          · rintro ⟨i, _, hi⟩
            exact ⟨i, hi⟩
end
section
variable {α : Type} {P : Program} {k : TypeId} {kv : α → Value} {w : World} {m : Nat} {F : α → Option Value}
theorem wp_mapUpdate_is [DecidableEq α] {o : Oper} {a : Act} {Kp : Act → World → Prop} {Q : Exit → Act → World → Prop} (mo x v : Operand) (t : TypeId) (hop : o.op = Op.mapUpdate t mo x v)
    (e : TypeId) (K : Keyed P k) (hinj : ∀ a b, kv a = kv b → a = b) (ht : P.underlying t = some (.map k e)) (hm : a.eval mo = .map (some m)) (h : MapIs P k kv w m F) (key : α) {kl : Lit} (hkey : keyOf P k (kv key) = some kl) (val : Value) (hx : a.eval x = kv key) (hv : a.eval v = val)
    (hK : ∀ w', MapIs P k kv w' m (upd F key (some val)) → Turned (fun x => x = m) w w' → Kp (a.put o.dst undef) w') : o.wp P a w Kp Q := by
  obtain ⟨w', hrun, r1, r2⟩ := h.update K hinj ht key hkey val
  unfold Oper.wp
  simp [execOp, hop, hm, hx, hv, hrun, Result.andThen]
  exact hK w' r1 r2
theorem wpList_mapUpdate_is [DecidableEq α] {ops : Array Oper} {rest : List Oper} {o : Oper} {a : Act} {Q : Exit → Act → World → Prop} (hg : o.guard = none) (mo x v : Operand) (t : TypeId) (hop : o.op = Op.mapUpdate t mo x v)
    (e : TypeId) (K : Keyed P k) (hinj : ∀ a b, kv a = kv b → a = b) (ht : P.underlying t = some (.map k e)) (hm : a.eval mo = .map (some m)) (h : MapIs P k kv w m F) (key : α) {kl : Lit} (hkey : keyOf P k (kv key) = some kl) (val : Value) (hx : a.eval x = kv key) (hv : a.eval v = val)
    (hK : ∀ w', MapIs P k kv w' m (upd F key (some val)) → Turned (fun x => x = m) w w' → wpList P ops Q rest (a.put o.dst undef) w') : wpList P ops Q (o :: rest) a w :=
  wpList_plain hg fun _ hk => wp_mapUpdate_is mo x v t hop e K hinj ht hm h key hkey val hx hv fun w' h1 h2 => hk _ _ (hK w' h1 h2)
theorem wpList_delete_is [DecidableEq α] {ops : Array Oper} {rest : List Oper} {o : Oper} {a : Act} {Q : Exit → Act → World → Prop} (hg : o.guard = none) (mo x : Operand) (t : TypeId) (hop : o.op = .call { callee := .builtin .delete, args := #[mo, x], argTypes := #[t, k] })
    (e : TypeId) (K : Keyed P k) (hinj : ∀ a b, kv a = kv b → a = b) (ht : P.underlying t = some (.map k e)) (hm : a.eval mo = .map (some m)) (h : MapIs P k kv w m F) (key : α) {kl : Lit} (hkey : keyOf P k (kv key) = some kl) (hx : a.eval x = kv key)
    (hK : ∀ w', MapIs P k kv w' m (upd F key none) → Turned (fun x => x = m) w w' → wpList P ops Q rest (a.put o.dst (.tuple #[])) w') : wpList P ops Q (o :: rest) a w := by
  refine wpList_plain hg fun K' hK' => ?_
  obtain ⟨w', hrun, r1, r2⟩ := h.delete K hinj ht key hkey o.type
  unfold Oper.wp
  simp [execOp, hop, resolve, invoke, builtin, hm, hx, hrun, Result.andThen]
  exact hK' _ _ (hK w' r1 r2)
end
/-- 'for k, v := range m' under way: S tells which keys have come. -/
def MapIt {α : Type} (P : Program) (k : TypeId) (kv : α → Value) (w : World) (m r : Nat) (F : α → Option Value) (S : α → Bool) (cnt : Nat) : Prop :=
  ∃ (es : Array MapEntry) (clock : Nat) (l : List (α × Value)) (since : Nat) (seen : Array Nat) (c0 : Nat), w.heap[m]? = some (.map es clock) ∧ es.toList.map (fun e => (e.key, e.val)) = l.map (fun p => (kv p.1, p.2)) ∧ (l.map (·.1)).Nodup ∧ ((∀ p ∈ l, ∃ x, keyOf P k (kv p.1) = some x) ∧ ∀ a v, F a = some v ↔ (a, v) ∈ l) ∧
    w.heap[r]? = some (.mapIter (some m) since seen c0) ∧ (∀ x ∈ es.toList, x.born < since) ∧ (es.toList.map (·.born)).Nodup ∧ since ≤ c0 ∧ since ≤ clock ∧ (leftOf es seen).size = cnt ∧ ∀ (i : Nat) (x : MapEntry) (p : α × Value), es.toList[i]? = some x → l[i]? = some p → S p.1 = seen.contains x.born
section
variable {α : Type} {P : Program} {k : TypeId} {kv : α → Value} {w w' : World} {m r cnt : Nat} {F : α → Option Value} {S : α → Bool}
theorem MapIt.kept (h : MapIt P k kv w m r F S cnt) (hm : w'.heap[m]? = w.heap[m]?) (hr : w'.heap[r]? = w.heap[r]?) : MapIt P k kv w' m r F S cnt := by
  obtain ⟨es, clock, l, since, seen, c0, h1, h2, h3, h4, h5, h6⟩ := h
  exact ⟨es, clock, l, since, seen, c0, hm.trans h1, h2, h3, h4, hr.trans h5, h6⟩
theorem MapIt.lt (h : MapIt P k kv w m r F S cnt) : m < w.heap.size ∧ r < w.heap.size := by
  obtain ⟨es, clock, l, since, seen, c0, h1, h2, h3, h4, h5, h6⟩ := h
  exact ⟨(Array.getElem?_eq_some_iff.1 h1).1, (Array.getElem?_eq_some_iff.1 h5).1⟩
theorem MapIt.turned (h : MapIt P k kv w m r F S cnt) {T : Nat → Prop} (ht : Turned T w w') (hm : ¬ T m) (hr : ¬ T r) : MapIt P k kv w' m r F S cnt := h.kept (ht.block m h.lt.1 hm) (ht.block r h.lt.2 hr)
theorem MapIs.range (h : MapIs P k kv w m F) {t e : TypeId} (ht : P.underlying t = some (.map k e)) :
    ∃ w', (Instr.range t (.map (some m))).run P w = .ok (.pointer (some ⟨w.heap.size, 0, none⟩)) w' ∧ (∃ cnt, MapIt P k kv w' m w.heap.size F (fun _ => false) cnt) ∧ Grew w w' ∧ w'.heap.size = w.heap.size + 1 := by
  have hlt := h.lt
  obtain ⟨es, clock, l, hb, he, hnd, hok, hF, hS1, hS2⟩ := h
  refine ⟨_, run_range_map w t k e m es clock ht hb, ⟨_, es, clock, l, clock, #[], clock, (Below.heap_alloc w _ m hlt).trans hb, he, hnd, ⟨hok, hF⟩, heap_alloc_new w _, hS1, hS2, Nat.le_refl _, Nat.le_refl _, rfl, fun i x p _ _ => by simp⟩, (Grew.refl w).alloc _, by simp⟩
theorem MapIt.next [DecidableEq α] (h : MapIt P k kv w m r F S cnt) (hne : m ≠ r) (ty : TypeId) :
    ((∀ a v, F a = some v → S a = true) ∧ (Instr.next (.pointer (some ⟨r, 0, none⟩)) false ty).run P w = .ok (.tuple #[.bool false]) w) ∨
    ∃ a v w' cnt', (∃ x, keyOf P k (kv a) = some x) ∧ F a = some v ∧ S a = false ∧ (Instr.next (.pointer (some ⟨r, 0, none⟩)) false ty).run P w = .ok (.tuple #[.bool true, kv a, v]) w' ∧ MapIt P k kv w' m r F (upd S a true) cnt' ∧ cnt' < cnt ∧ Turned (fun x => x = r) w w' ∧
      (Instr.entry (.pointer (some ⟨r, 0, none⟩))).run P w' = .ok (.tuple #[kv a, v]) w' := by
  obtain ⟨es, clock, l, since, seen, c0, hb, he, hnd, ⟨hok, hF⟩, hr, hold, hbn, hsc, hsk, rfl, hS⟩ := h
  have hlen : es.toList.length = l.length := by have := congrArg List.length he; simpa using this
  rcases run_next_at (P := P) w ty r m since c0 seen es clock hr hb hold hsc with ⟨h0, hrun⟩ | ⟨e, hem, w1, hal, hrun⟩
  · refine .inl ⟨fun a v hav => ?_, hrun⟩
    obtain ⟨i, hi, hil⟩ := List.mem_iff_getElem.1 ((hF a v).1 hav)
    have hie : i < es.toList.length := by omega
    have := hS i _ _ (List.getElem?_eq_getElem hie) (List.getElem?_eq_getElem hi)
    rw [hil] at this
    rw [this]
    exact all_seen es seen h0 _ (List.getElem_mem hie)
  · obtain ⟨he1, hes⟩ := mem_left hem
    obtain ⟨i, hi, hie⟩ := List.mem_iff_getElem.1 he1
    have hil : i < l.length := by omega
    have hkv : (e.key, e.val) = (kv l[i].1, l[i].2) := by
      have h9 : (es.toList.map (fun e => (e.key, e.val)))[i]? = (l.map (fun p => (kv p.1, p.2)))[i]? := by rw [he]
      rw [List.getElem?_map, List.getElem?_map, List.getElem?_eq_getElem hi, List.getElem?_eq_getElem hil, hie] at h9
      simpa using h9
    injection hkv with hk1 hk2
    rw [hk1, hk2] at hrun
    have hr1 : w1.heap[r]? = some (.mapIter (some m) since seen c0) := by rcases hal with rfl | rfl <;> exact hr
    have hb1 : w1.heap[m]? = some (.map es clock) := by rcases hal with rfl | rfl <;> exact hb
    have hset := Go.MapKept.heap_set (o' := .mapIter (some m) since (seen.push e.born) clock) hr1
    have hb' : (Go.ChangeMaps.setBlock w1 r (.mapIter (some m) since (seen.push e.born) clock)).heap[m]? = some (.map es clock) := (hset.2 m hne).trans hb1
    refine .inr ⟨l[i].1, l[i].2, _, _, hok _ (List.getElem_mem hil), (hF _ _).2 (List.getElem_mem hil), ?_, hrun, ⟨es, clock, l, since, seen.push e.born, clock, hb', he, hnd, ⟨hok, hF⟩, hset.1, hold, hbn, hsk, hsk, rfl, fun j x p hj hp => ?_⟩, left_shrinks es seen e hem, ?_, ?_⟩
    · have := hS i _ _ (List.getElem?_eq_getElem hi) (List.getElem?_eq_getElem hil)
      rw [this, hie]; exact hes
    · rw [contains_push]
      have h1 := hS j x p hj hp
      by_cases hpa : p.1 = l[i].1
      · have hji : j = i := nodup_at hnd (a := l[i].1) (by rw [List.getElem?_map, hp]; simp [hpa]) (by rw [List.getElem?_map, List.getElem?_eq_getElem hil]; rfl)
        subst hji
        rw [List.getElem?_eq_getElem hi, hie] at hj
        injection hj with hj
        rw [hpa, upd_same, ← hj]
        simp
      · rw [upd_other _ _ hpa, h1]
        have hxe : x.born ≠ e.born := fun h9 => by
          have hxm : x ∈ es.toList := List.mem_of_getElem? hj
          have hx9 := born_inj hbn hxm he1 h9
          have hji : j = i := by
            have hj' := (List.getElem?_eq_some_iff.1 hj).1
            have b1 : (es.toList.map (·.born))[j]? = some e.born := by rw [List.getElem?_map, hj, hx9]; rfl
            have b2 : (es.toList.map (·.born))[i]? = some e.born := by rw [List.getElem?_map, List.getElem?_eq_getElem hi, hie]; rfl
            exact nodup_at hbn b1 b2
          subst hji
          rw [List.getElem?_eq_getElem hil] at hp
          injection hp with hp
          exact hpa (by rw [hp])
        rw [show (x.born == e.born) = false from beq_eq_false_iff_ne.2 hxe, Bool.or_false]
    · rcases hal with rfl | rfl <;> exact ⟨rfl, rfl, rfl, by simp [Go.ChangeMaps.setBlock], fun i _ hi => hset.2 i hi⟩
    · have := run_entry_at (P := P) _ r m since seen es clock e hset.1 hb' he1 hbn
      rw [hk1, hk2] at this
      exact this
theorem wpList_range_is {ops : Array Oper} {rest : List Oper} {o : Oper} {a : Act} {Q : Exit → Act → World → Prop} (hg : o.guard = none) (mo : Operand) (t : TypeId) (hop : o.op = Op.range t mo) (e : TypeId) (ht : P.underlying t = some (.map k e)) (hm : a.eval mo = .map (some m)) (h : MapIs P k kv w m F)
    (hK : ∀ w' cnt, MapIt P k kv w' m w.heap.size F (fun _ => false) cnt → Grew w w' → w'.heap.size = w.heap.size + 1 → wpList P ops Q rest (a.put o.dst (.pointer (some ⟨w.heap.size, 0, none⟩))) w') : wpList P ops Q (o :: rest) a w := by
  refine wpList_plain hg fun K' hK' => ?_
  obtain ⟨w', hrun, ⟨cnt, r1⟩, r2, r3⟩ := h.range ht
  unfold Oper.wp
  simp [execOp, hop, hm, hrun, Result.andThen]
  exact hK' _ _ (hK w' cnt r1 r2 r3)
theorem wpList_next_is [DecidableEq α] {ops : Array Oper} {rest : List Oper} {o : Oper} {a : Act} {Q : Exit → Act → World → Prop} (hg : o.guard = none) (it : Operand) (hop : o.op = Op.next it false) (hit : a.eval it = .pointer (some ⟨r, 0, none⟩)) (h : MapIt P k kv w m r F S cnt) (hne : m ≠ r)
    (hDone : (∀ a v, F a = some v → S a = true) → wpList P ops Q rest (a.put o.dst (.tuple #[.bool false])) w)
    (hMore : ∀ (x : α) (v : Value) (w' : World) (cnt' : Nat), (∃ y, keyOf P k (kv x) = some y) → F x = some v → S x = false → MapIt P k kv w' m r F (upd S x true) cnt' → cnt' < cnt → Turned (fun y => y = r) w w' → (Instr.entry (.pointer (some ⟨r, 0, none⟩))).run P w' = .ok (.tuple #[kv x, v]) w' → wpList P ops Q rest (a.put o.dst (.tuple #[.bool true, kv x, v])) w') : wpList P ops Q (o :: rest) a w := by
  refine wpList_plain hg fun K' hK' => ?_
  unfold Oper.wp
  rcases h.next (P := P) hne o.type with ⟨h0, hrun⟩ | ⟨x, v, w', cnt', h0, h1, h2, hrun, h3, h4, h5, h6⟩
  · simp [execOp, hop, hit, hrun, Result.andThen]
    exact hK' _ _ (hDone h0)
  · simp [execOp, hop, hit, hrun, Result.andThen]
    exact hK' _ _ (hMore x v w' cnt' h0 h1 h2 h3 h4 h5 h6)
end
end Go.Proofs.Ytklojcgbokmkhaa
