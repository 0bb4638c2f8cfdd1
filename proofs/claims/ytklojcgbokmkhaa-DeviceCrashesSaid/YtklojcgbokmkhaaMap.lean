/- A map of the call's own, as a function of its keys. -/
import Derived.Test.YtklojcgbokmkhaaFrame
import Derived.Maps.Own
import Derived.Maps.OwnSet
namespace Go.Proofs.Ytklojcgbokmkhaa
set_option linter.unusedVariables false
set_option linter.unusedSimpArgs false
set_option linter.unusedSectionVars false
open Go.RowKit Go.MapKept
open Go.Maps (Keyed)
/-- A function of keys, changed at one. -/
def upd {α β : Type} [DecidableEq α] (F : α → β) (a : α) (b : β) : α → β := fun x => if x = a then b else F x
theorem upd_same {α β : Type} [DecidableEq α] (F : α → β) (a : α) (b : β) : upd F a b a = b := if_pos rfl
theorem upd_other {α β : Type} [DecidableEq α] (F : α → β) {a x : α} (b : β) (h : x ≠ a) : upd F a b x = F x := if_neg h
theorem nodup_at {α : Type} {l : List α} (h : l.Nodup) {i j : Nat} {a : α} (hi : l[i]? = some a) (hj : l[j]? = some a) : i = j := by
  obtain ⟨hi1, e1⟩ := List.getElem?_eq_some_iff.1 hi
  obtain ⟨hj1, e2⟩ := List.getElem?_eq_some_iff.1 hj
  rcases Nat.lt_trichotomy i j with h1 | h1 | h1
  · exact absurd (e1.trans e2.symm) (List.pairwise_iff_getElem.1 h i j hi1 hj1 h1)
  · exact h1
  · exact absurd (e2.trans e1.symm) (List.pairwise_iff_getElem.1 h j i hj1 hi1 h1)
theorem map_erase {α β : Type} (f : α → β) (l : List α) (i : Nat) : (l.eraseIdx i).map f = (l.map f).eraseIdx i := by
  induction l generalizing i with
  | nil => rfl
  | cons x l ih => cases i with
    | zero => rfl
    | succ i => simp [List.eraseIdx, ih]
/-- Block m is a map whose keys are 'kv a'; at a it holds F a. -/
def MapIs {α : Type} (P : Program) (k : TypeId) (kv : α → Value) (w : World) (m : Nat) (F : α → Option Value) : Prop :=
  ∃ (es : Array MapEntry) (clock : Nat) (l : List (α × Value)), w.heap[m]? = some (.map es clock) ∧ es.toList.map (fun e => (e.key, e.val)) = l.map (fun p => (kv p.1, p.2)) ∧ (l.map (·.1)).Nodup ∧ (∀ p ∈ l, ∃ x, keyOf P k (kv p.1) = some x) ∧ ∀ a v, F a = some v ↔ (a, v) ∈ l
section
variable {α : Type} {P : Program} {k : TypeId} {kv : α → Value} {w w' : World} {m : Nat} {F : α → Option Value}
theorem MapIs.lt (h : MapIs P k kv w m F) : m < w.heap.size := by
  obtain ⟨es, clock, l, hb, _⟩ := h
  rcases Nat.lt_or_ge m w.heap.size with hlt | hge
  · exact hlt
  · rw [Array.getElem?_eq_none hge] at hb; cases hb
theorem MapIs.same (h : MapIs P k kv w m F) (e : w'.heap[m]? = w.heap[m]?) : MapIs P k kv w' m F := by
  obtain ⟨es, clock, l, hb, hr⟩ := h
  exact ⟨es, clock, l, e.trans hb, hr⟩
theorem MapIs.alloc (h : MapIs P k kv w m F) (o : Obj) : MapIs P k kv (w.alloc o) m F := h.same (Below.heap_alloc w o m h.lt)
theorem MapIs.drew (h : MapIs P k kv w m F) : MapIs P k kv w.drew m F := h
theorem MapIs.drewN (h : MapIs P k kv w m F) (n : Nat) : MapIs P k kv (w.drewN n) m F := h
theorem MapIs.far (h : MapIs P k kv w m F) {p : Addr} (hp : m ≠ p.block) (u : Value) : MapIs P k kv (w.setCell p u) m F := h.same (Below.heap_setCell w p u m hp)
theorem MapIs.turned (h : MapIs P k kv w m F) {S : Nat → Prop} (ht : Turned S w w') (hS : ¬ S m) : MapIs P k kv w' m F := h.same (ht.block m h.lt hS)
theorem MapIs.grew (h : MapIs P k kv w m F) (hg : Grew w w') : MapIs P k kv w' m F := h.same (hg.block m h.lt)
theorem MapIs.grown (h : MapIs P k kv w m F) {row : Option Nat} (hg : w.grownBy w' row) (hne : row ≠ some m) : MapIs P k kv w' m F := h.same (hg.block m h.lt (fun e => hne e.symm))
theorem MapIs.congr (h : MapIs P k kv w m F) {G : α → Option Value} (e : ∀ a, F a = G a) : MapIs P k kv w m G := by
  have : F = G := funext e
  rwa [← this]
theorem MapIs.made (w : World) {n : Nat} (hn : n = w.heap.size) : MapIs P k kv (w.alloc (.map #[] 0)) n (fun _ => none) := by
  subst hn
  exact ⟨#[], 0, [], heap_alloc_new w _, rfl, by simp, by simp, by simp⟩
theorem heap_set_other (w : World) (m i : Nat) (o : Obj) (h : i ≠ m) : (w.heap.setIfInBounds m o)[i]? = w.heap[i]? := by
  rw [Array.getElem?_setIfInBounds]; rw [if_neg (fun e => h e.symm)]
theorem heap_set_self (w : World) (m : Nat) (o : Obj) (h : m < w.heap.size) : (w.heap.setIfInBounds m o)[m]? = some o := by
  rw [Array.getElem?_setIfInBounds, if_pos rfl, if_pos h]
theorem setObj_turned (w : World) (m : Nat) (o : Obj) : Turned (fun x => x = m) w { w with heap := w.heap.setIfInBounds m o } :=
  ⟨rfl, rfl, rfl, by simp, fun i _ hi => heap_set_other w m i o hi⟩
variable (K : Keyed P k) (hinj : ∀ a b, kv a = kv b → a = b)
include K hinj
/-- The entry of a key. -/
theorem find_is {es : Array MapEntry} {l : List (α × Value)} (he : es.toList.map (fun e => (e.key, e.val)) = l.map (fun p => (kv p.1, p.2))) (hnd : (l.map (·.1)).Nodup) (hok : ∀ p ∈ l, ∃ x, keyOf P k (kv p.1) = some x)
    (hF : ∀ a v, F a = some v ↔ (a, v) ∈ l) (w : World) (a : α) {x : Lit} (hx : keyOf P k (kv a) = some x) :
    ((Instr.findKey k (kv a) es.toList).run P w = .ok none w ∧ F a = none) ∨ ∃ j v, (Instr.findKey k (kv a) es.toList).run P w = .ok (some (j, v)) w ∧ F a = some v ∧ l[j]? = some (a, v) := by
  have hall : ∀ e ∈ es.toList, ∃ l, keyOf P k e.key = some l := by
    intro e hee
    have hm : (e.key, e.val) ∈ es.toList.map (fun e => (e.key, e.val)) := List.mem_map_of_mem hee
    rw [he] at hm
    obtain ⟨p, hp, hpe⟩ := List.mem_map.1 hm
    injection hpe with h1 _
    rw [← h1]
    exact hok p hp
  rcases K.find w hx es.toList hall with ⟨h1, h2⟩ | ⟨j, e, h1, h2, h3⟩
  · refine .inl ⟨h1, ?_⟩
    cases hFa : F a with
    | none => rfl
    | some v =>
      exfalso
      have hm := (hF a v).1 hFa
      have hm' : (kv a, v) ∈ l.map (fun p => (kv p.1, p.2)) := List.mem_map.2 ⟨(a, v), hm, rfl⟩
      rw [← he] at hm'
      obtain ⟨e, hee, hek⟩ := List.mem_map.1 hm'
      injection hek with hk1 _
      exact h2 e hee hk1
  · refine .inr ⟨j, e.val, h1, ?_, ?_⟩
    · have hj : (es.toList.map (fun e => (e.key, e.val)))[j]? = some (e.key, e.val) := by rw [List.getElem?_map, h2]; rfl
      rw [he, List.getElem?_map] at hj
      cases hq : l[j]? with
      | none => rw [hq] at hj; cases hj
      | some p =>
        rw [hq] at hj
        injection hj with hj
        injection hj with hj1 hj2
        have hpa : p.1 = a := hinj _ _ (hj1.trans h3)
        exact (hF a e.val).2 (by rw [← hpa, ← hj2]; exact List.mem_of_getElem? hq)
    · have hj : (es.toList.map (fun e => (e.key, e.val)))[j]? = some (e.key, e.val) := by rw [List.getElem?_map, h2]; rfl
      rw [he, List.getElem?_map] at hj
      cases hq : l[j]? with
      | none => rw [hq] at hj; cases hj
      | some p =>
        rw [hq] at hj
        injection hj with hj
        injection hj with hj1 hj2
        have hpa : p.1 = a := hinj _ _ (hj1.trans h3)
        rw [← hpa, ← hj2]
theorem MapIs.lookup_ok (h : MapIs P k kv w m F) {t e : TypeId} {z : Value} (ht : P.underlying t = some (.map k e)) (hz : (zeroValue e).run P w = .ok z w) (a : α) {x : Lit} (hx : keyOf P k (kv a) = some x) :
    (Instr.lookup t (.map (some m)) (kv a) true).run P w = .ok (.tuple #[(F a).getD z, .bool (F a).isSome]) w := by
  obtain ⟨es, clock, l, hb, he, hnd, hok, hF⟩ := h
  rcases find_is K hinj he hnd hok hF w a hx with ⟨h1, h2⟩ | ⟨j, v, h1, h2, _⟩
  · simp [Instr.lookup, run_underlying ht, Go.MapKept.run_getObj_map hb, K.check w _ hx, h1, h2, hz]
  · simp [Instr.lookup, run_underlying ht, Go.MapKept.run_getObj_map hb, K.check w _ hx, h1, h2]
theorem MapIs.lookup_val (h : MapIs P k kv w m F) {t e : TypeId} {z : Value} (ht : P.underlying t = some (.map k e)) (hz : (zeroValue e).run P w = .ok z w) (a : α) {x : Lit} (hx : keyOf P k (kv a) = some x) :
    (Instr.lookup t (.map (some m)) (kv a) false).run P w = .ok ((F a).getD z) w := by
  obtain ⟨es, clock, l, hb, he, hnd, hok, hF⟩ := h
  rcases find_is K hinj he hnd hok hF w a hx with ⟨h1, h2⟩ | ⟨j, v, h1, h2, _⟩
  · simp [Instr.lookup, run_underlying ht, Go.MapKept.run_getObj_map hb, K.check w _ hx, h1, h2, hz]
  · simp [Instr.lookup, run_underlying ht, Go.MapKept.run_getObj_map hb, K.check w _ hx, h1, h2]
theorem MapIs.update [DecidableEq α] (h : MapIs P k kv w m F) {t e : TypeId} (ht : P.underlying t = some (.map k e)) (a : α) {x : Lit} (hx : keyOf P k (kv a) = some x) (v : Value) :
    ∃ w', (Instr.mapUpdate t (.map (some m)) (kv a) v).run P w = .ok () w' ∧ MapIs P k kv w' m (upd F a (some v)) ∧ Turned (fun x => x = m) w w' := by
  obtain ⟨es, clock, l, hb, he, hnd, hok, hF⟩ := h
  have hlt : m < w.heap.size := MapIs.lt (P := P) (k := k) (kv := kv) (F := F) ⟨es, clock, l, hb, he, hnd, hok, hF⟩
  rcases find_is K hinj he hnd hok hF w a hx with ⟨h1, h2⟩ | ⟨j, v0, h1, h2, hj⟩
  · refine ⟨_, ?_, ?_, setObj_turned w m (.map (es.push { key := kv a, val := v, born := clock }) (clock + 1))⟩
    · simp [Instr.mapUpdate, run_underlying ht, Go.MapKept.run_getObj_map hb, K.check w _ hx, h1, Go.MapKept.run_setObj_map _ hb]
    · have hna : ∀ v, (a, v) ∉ l := fun v hv => by have := (hF a v).2 hv; rw [h2] at this; cases this
      refine ⟨_, _, l ++ [(a, v)], heap_set_self w m _ hlt, by simp [he], ?_, ?_, ?_⟩
      · rw [List.map_append, List.nodup_append]
        refine ⟨hnd, by simp, fun y hy z hz e => ?_⟩
        simp at hz
        subst hz
        subst e
        obtain ⟨p, hp, hpe⟩ := List.mem_map.1 hy
        exact hna p.2 (by rw [← hpe]; exact hp)
      · intro p hp
        rcases List.mem_append.1 hp with hp | hp
        · exact hok p hp
        · rw [List.mem_singleton.1 hp]; exact ⟨x, hx⟩
      · intro b u
        rw [List.mem_append]
        by_cases hba : b = a
        · subst hba
          rw [upd_same]
          simp [hna]
          exact eq_comm
        · rw [upd_other _ _ hba, hF b u]
          simp [hba]
  · have hjl : j < es.size := by
      have := (List.getElem?_eq_some_iff.1 hj).1
      have hlen := congrArg List.length he
      simp at hlen
      omega
    have hkj : (es[j]'hjl).key = kv a := by
      have hq : (es.toList.map (fun e => (e.key, e.val)))[j]? = (l.map (fun p => (kv p.1, p.2)))[j]? := by rw [he]
      rw [List.getElem?_map, List.getElem?_map, hj] at hq
      rw [Array.getElem?_toList, Array.getElem?_eq_getElem hjl] at hq
      simp at hq
      exact hq.1
    refine ⟨_, ?_, ?_, setObj_turned w m (.map (es.modify j fun e => { e with key := kv a, val := v }) clock)⟩
    · simp [Instr.mapUpdate, run_underlying ht, Go.MapKept.run_getObj_map hb, K.check w _ hx, h1, Go.MapKept.run_setObj_map _ hb, hjl, hkj, K.stays w hx]
    · refine ⟨_, _, l.set j (a, v), heap_set_self w m _ hlt, ?_, ?_, ?_, ?_⟩
      · apply List.ext_getElem?
        intro i
        have hi := congrArg (fun z => z[i]?) he
        simp only [List.getElem?_map, Array.getElem?_toList] at hi
        rw [List.getElem?_map, List.getElem?_map, Array.getElem?_toList, Array.getElem?_modify, List.getElem?_set]
        by_cases hij : j = i
        · subst hij
          rw [if_pos rfl, if_pos rfl, if_pos (List.getElem?_eq_some_iff.1 hj).1, Array.getElem?_eq_getElem hjl]
          rfl
        · rw [if_neg hij, if_neg hij]
          exact hi
      · rw [List.map_set]
        have : (l.map (·.1)).set j a = l.map (·.1) := by
          apply List.ext_getElem?
          intro i
          rw [List.getElem?_set]
          by_cases hij : j = i
          · subst hij
            rw [if_pos rfl, List.getElem?_map, hj]
            have : j < (l.map (·.1)).length := by rw [List.length_map]; exact (List.getElem?_eq_some_iff.1 hj).1
            rw [if_pos this]
            rfl
          · rw [if_neg hij]
        rw [this]
        exact hnd
      · intro p hp
        rcases List.mem_or_eq_of_mem_set hp with hp | rfl
        · exact hok p hp
        · exact ⟨x, hx⟩
      · intro b u
        have hjl2 := (List.getElem?_eq_some_iff.1 hj).1
        have huniq : ∀ i q, l[i]? = some q → q.1 = a → i = j := by
          intro i q hi hq
          have h1 : (l.map (·.1))[i]? = some a := by rw [List.getElem?_map, hi]; simp [hq]
          have h2 : (l.map (·.1))[j]? = some a := by rw [List.getElem?_map, hj]; rfl
          exact nodup_at hnd h1 h2
        by_cases hba : b = a
        · subst hba
          rw [upd_same, List.mem_iff_getElem?]
          constructor
          · intro e
            injection e with e
            subst e
            exact ⟨j, by rw [List.getElem?_set_self hjl2]⟩
          · rintro ⟨i, hi⟩
            rw [List.getElem?_set] at hi
            by_cases hij : j = i
            · rw [if_pos hij, if_pos (by omega)] at hi
              injection hi with hi
              injection hi with _ hi
              rw [hi]
            · rw [if_neg hij] at hi
              exact absurd (huniq i _ hi rfl).symm hij
        · rw [upd_other _ _ hba, hF b u, List.mem_iff_getElem?, List.mem_iff_getElem?]
          constructor
          · rintro ⟨i, hi⟩
            refine ⟨i, ?_⟩
            rw [List.getElem?_set, if_neg]
            · exact hi
            · rintro rfl
              rw [hj] at hi
              injection hi with hi
              injection hi with hi _
              exact hba hi.symm
          · rintro ⟨i, hi⟩
            rw [List.getElem?_set] at hi
            by_cases hij : j = i
            · rw [if_pos hij, if_pos (by omega)] at hi
              injection hi with hi
              injection hi with hi _
              exact absurd hi.symm hba
            · rw [if_neg hij] at hi
              exact ⟨i, hi⟩
theorem MapIs.delete [DecidableEq α] (h : MapIs P k kv w m F) {t e : TypeId} (ht : P.underlying t = some (.map k e)) (a : α) {x : Lit} (hx : keyOf P k (kv a) = some x) (ty : TypeId) :
    ∃ w', (Builtin.delete_ #[t, k] ty #[.map (some m), kv a]).run P w = .ok (.tuple #[]) w' ∧ MapIs P k kv w' m (upd F a none) ∧ Turned (fun x => x = m) w w' := by
  obtain ⟨es, clock, l, hb, he, hnd, hok, hF⟩ := h
  have hlt : m < w.heap.size := MapIs.lt (P := P) (k := k) (kv := kv) (F := F) ⟨es, clock, l, hb, he, hnd, hok, hF⟩
  rcases find_is K hinj he hnd hok hF w a hx with ⟨h1, h2⟩ | ⟨j, v0, h1, h2, hj⟩
  · refine ⟨_, ?_, ?_, setObj_turned w m (.map es clock)⟩
    · simp [Builtin.delete_, run_underlying ht, Go.MapKept.run_getObj_map hb, K.check w _ hx, h1, Go.MapKept.run_setObj_map _ hb]
    · refine ⟨_, _, l, heap_set_self w m _ hlt, he, hnd, hok, fun b u => ?_⟩
      by_cases hba : b = a
      · subst hba; rw [upd_same, ← hF b u, h2]
      · rw [upd_other _ _ hba]; exact hF b u
  · have hjl2 := (List.getElem?_eq_some_iff.1 hj).1
    have hjl : j < es.size := by
      have hlen := congrArg List.length he
      simp at hlen
      omega
    refine ⟨_, ?_, ?_, setObj_turned w m (.map (es.eraseIdxIfInBounds j) clock)⟩
    · simp [Builtin.delete_, run_underlying ht, Go.MapKept.run_getObj_map hb, K.check w _ hx, h1, Go.MapKept.run_setObj_map _ hb]
    · refine ⟨_, _, l.eraseIdx j, heap_set_self w m _ hlt, ?_, ?_, ?_, ?_⟩
      · rw [Array.eraseIdxIfInBounds, dif_pos hjl, Array.toList_eraseIdx, map_erase, he, map_erase]
      · rw [map_erase]
        exact hnd.eraseIdx j
      · intro p hp
        exact hok p (List.mem_of_mem_eraseIdx hp)
      · intro b u
        have huniq : ∀ i q, l[i]? = some q → q.1 = a → i = j := by
          intro i q hi hq
          have h1 : (l.map (·.1))[i]? = some a := by rw [List.getElem?_map, hi]; simp [hq]
          have h2 : (l.map (·.1))[j]? = some a := by rw [List.getElem?_map, hj]; rfl
          exact nodup_at hnd h1 h2
        rw [List.mem_eraseIdx_iff_getElem?]
        by_cases hba : b = a
        · subst hba
          rw [upd_same]
          constructor
          · intro e; cases e
          · rintro ⟨i, hne, hi⟩
            exact absurd (huniq i _ hi rfl) hne
        · rw [upd_other _ _ hba, hF b u, List.mem_iff_getElem?]
          constructor
          · rintro ⟨i, hi⟩
            refine ⟨i, ?_, hi⟩
            rintro rfl
            rw [hj] at hi
            injection hi with hi
            injection hi with hi _
            exact hba hi.symm
          · rintro ⟨i, _, hi⟩
            exact ⟨i, hi⟩
end
section
variable {α : Type} {P : Program} {k : TypeId} {kv : α → Value} {w : World} {m : Nat} {F : α → Option Value}
theorem wp_mapUpdate_is [DecidableEq α] {o : Oper} {a : Act} {Kp : Act → World → Prop} {Q : Exit → Act → World → Prop} (mo x v : Operand) (t : TypeId) (hop : o.op = Op.mapUpdate t mo x v)
    (e : TypeId) (K : Keyed P k) (hinj : ∀ a b, kv a = kv b → a = b) (ht : P.underlying t = some (.map k e)) (hm : a.eval mo = .map (some m)) (h : MapIs P k kv w m F) (key : α) {kl : Lit} (hkey : keyOf P k (kv key) = some kl) (val : Value) (hx : a.eval x = kv key) (hv : a.eval v = val)
    (hK : ∀ w', MapIs P k kv w' m (upd F key (some val)) → Turned (fun x => x = m) w w' → Kp (a.put o.dst undef) w') : o.wp P a w Kp Q := by
  obtain ⟨w', hrun, r1, r2⟩ := h.update K hinj ht key hkey val
  unfold Oper.wp
  simp [execOp, hop, hm, hx, hv, hrun, Result.andThen]
  exact hK w' r1 r2
theorem wpList_mapUpdate_is [DecidableEq α] {ops : Array Oper} {rest : List Oper} {o : Oper} {a : Act} {Q : Exit → Act → World → Prop} (hg : o.guard = none) (mo x v : Operand) (t : TypeId) (hop : o.op = Op.mapUpdate t mo x v)
    (e : TypeId) (K : Keyed P k) (hinj : ∀ a b, kv a = kv b → a = b) (ht : P.underlying t = some (.map k e)) (hm : a.eval mo = .map (some m)) (h : MapIs P k kv w m F) (key : α) {kl : Lit} (hkey : keyOf P k (kv key) = some kl) (val : Value) (hx : a.eval x = kv key) (hv : a.eval v = val)
    (hK : ∀ w', MapIs P k kv w' m (upd F key (some val)) → Turned (fun x => x = m) w w' → wpList P ops Q rest (a.put o.dst undef) w') : wpList P ops Q (o :: rest) a w :=
  wpList_plain hg fun _ hk => wp_mapUpdate_is mo x v t hop e K hinj ht hm h key hkey val hx hv fun w' h1 h2 => hk _ _ (hK w' h1 h2)
theorem wpList_delete_is [DecidableEq α] {ops : Array Oper} {rest : List Oper} {o : Oper} {a : Act} {Q : Exit → Act → World → Prop} (hg : o.guard = none) (mo x : Operand) (t : TypeId) (hop : o.op = .call { callee := .builtin .delete, args := #[mo, x], argTypes := #[t, k] })
    (e : TypeId) (K : Keyed P k) (hinj : ∀ a b, kv a = kv b → a = b) (ht : P.underlying t = some (.map k e)) (hm : a.eval mo = .map (some m)) (h : MapIs P k kv w m F) (key : α) {kl : Lit} (hkey : keyOf P k (kv key) = some kl) (hx : a.eval x = kv key)
    (hK : ∀ w', MapIs P k kv w' m (upd F key none) → Turned (fun x => x = m) w w' → wpList P ops Q rest (a.put o.dst (.tuple #[])) w') : wpList P ops Q (o :: rest) a w := by
  refine wpList_plain hg fun K' hK' => ?_
  obtain ⟨w', hrun, r1, r2⟩ := h.delete K hinj ht key hkey o.type
  unfold Oper.wp
  simp [execOp, hop, resolve, invoke, builtin, hm, hx, hrun, Result.andThen]
  exact hK' _ _ (hK w' r1 r2)
end
end Go.Proofs.Ytklojcgbokmkhaa
