/- Chapter 8: what a change keeps, plain. Chapter 8: pieces of 128 bytes, plain. Chapter 8: the reference's cut and track; Texts. Chapter 8: the reference's Refs; SameRefs. Chapter 8: the reference's Sectors. Chapter 8: SameWrites for one list. Chapter 8: the reference's Changes. Chapter 8: what the sectors of a table say, plain. Chapter 8: how many sectors a change turns, plain. Chapter 8: Same, on both sides. Chapter 8: SameRefs for one list; Same of a table and itself; a reference as an argument. Chapter 8: a change as an argument; Small; the changes' results are small. Chapter 8: a list of changes as an argument; Small. Chapter 8: the program's Sectors. Chapter 8: the program's Changes. -/
import Derived.IntWalk
import Derived.Test.YtnlaogneceanoaaCkB
import Derived.Test.YtnlaogneceanoaaCkD
import Derived.Test.YtnlaogneceanoaaCkF
import Derived.Test.YtnlaogneceanoaaCkG
import Derived.Test.YtnlaogneceanoaaCkH
import Derived.Test.YtnlaogneceanoaaCkK
namespace Go.Proofs.Ytnlaogneceanoaa
set_option linter.unusedVariables false
set_option linter.unusedSimpArgs false
set_option linter.unusedSectionVars false
open Go.RowKit
theorem set_split {α : Type _} (ls : List α) (k : Nat) (hk : k < ls.length) (x : α) : ls.set k x = ls.take k ++ x :: ls.drop (k + 1) := by
  rw [List.set_eq_take_append_cons_drop, if_pos hk]
theorem self_split {α : Type _} (ls : List α) (k : Nat) (hk : k < ls.length) : ls = ls.take k ++ ls[k] :: ls.drop (k + 1) := by
  rw [← List.drop_eq_getElem_cons hk, List.take_append_drop]
theorem keysL_app (a b : List Lab) : keysL (a ++ b) = keysL a ++ keysL b := by unfold keysL; rw [List.filter_append, List.map_append]
theorem keysL_cons (x : Lab) (b : List Lab) : keysL (x :: b) = (if emL x = true then [] else [keyL x]) ++ keysL b := by
  unfold keysL
  rw [List.filter_cons]
  cases h : emL x <;> simp
theorem extsL_app (a b : List Lab) : extsL (a ++ b) = extsL a ++ extsL b := by simp [extsL]
theorem extsL_cons (x : Lab) (b : List Lab) : extsL (x :: b) = x.ext ++ extsL b := rfl
theorem keysL_mem (ls : List Lab) (p : Int × Bool) (h : p ∈ keysL ls) : ∃ (j : Nat) (hj : j < ls.length), emL ls[j] = false ∧ keyL ls[j] = p := by
  unfold keysL at h
  obtain ⟨l, hl, rfl⟩ := List.mem_map.1 h
  obtain ⟨hm, he⟩ := List.mem_filter.1 hl
  obtain ⟨j, hj, rfl⟩ := List.getElem_of_mem hm
  exact ⟨j, hj, by simpa using he, rfl⟩
theorem nodup_mid {α : Type _} {A K0 K D : List α} (h : (A ++ (K0 ++ D)).Nodup) (hK : K.Nodup) (hA : ∀ a ∈ A, ∀ b ∈ K, a ≠ b) (hD : ∀ a ∈ K, ∀ b ∈ D, a ≠ b) : (A ++ (K ++ D)).Nodup := by
  obtain ⟨h1, h2, h3⟩ := List.nodup_append.1 h
  obtain ⟨_, h5, _⟩ := List.nodup_append.1 h2
  refine List.nodup_append.2 ⟨h1, List.nodup_append.2 ⟨hK, h5, hD⟩, fun a ha b hb => ?_⟩
  rcases List.mem_append.1 hb with hb | hb
  · exact hA a ha b hb
  · exact h3 a ha b (List.mem_append_right _ hb)
/-- A label of a valid table is put in the place of another one. -/
theorem good_set (T : Tab) (h : GoodT T) (k : Nat) (hk : k < T.labels.length) (x : Lab) (hx : emL x = true ∨ validL x T.tracks = true)
    (hkey : emL x = true ∨ ∀ j (hj : j < T.labels.length), j ≠ k → emL T.labels[j] = false → keyL T.labels[j] ≠ keyL x)
    (hnd : (seqS x.ext).Nodup) (hseq : ∀ t ∈ seqS x.ext, t ∈ seqS T.labels[k].ext ∨ t ∉ seqS (extsL T.labels)) : GoodT { T with labels := T.labels.set k x } := by
  refine ⟨h.tr, h.nm, ?_, ?_, ?_, ?_⟩
  · rw [← h.len]; simp
  · intro l hl
    rcases List.mem_or_eq_of_mem_set hl with hl | rfl
    · exact h.ok l hl
    · exact hx
  · have h0 := h.keys
    show (keysL (T.labels.set k x)).Nodup
    rw [self_split T.labels k hk, keysL_app, keysL_cons] at h0
    rw [set_split _ k hk, keysL_app, keysL_cons]
    refine nodup_mid h0 ?_ ?_ ?_
    · split <;> simp
    · intro a ha b hb
      split at hb
      · cases hb
      · rename_i he
        rw [List.mem_singleton.1 hb]
        obtain ⟨j, hj, e1, e2⟩ := keysL_mem _ _ ha
        rw [List.length_take] at hj
        rw [List.getElem_take] at e1 e2
        rw [← e2]
        rcases hkey with hke | hke
        · exact absurd hke he
        · exact hke j (by omega) (by omega) e1
    · intro a ha b hb
      split at ha
      · cases ha
      · rename_i he
        rw [List.mem_singleton.1 ha]
        obtain ⟨j, hj, e1, e2⟩ := keysL_mem _ _ hb
        rw [List.length_drop] at hj
        rw [List.getElem_drop] at e1 e2
        rw [← e2]
        rcases hkey with hke | hke
        · exact absurd hke he
        · exact fun e => hke (k + 1 + j) (by omega) (by omega) e1 e.symm
  · have h0 := h.seq
    show (seqS (extsL (T.labels.set k x))).Nodup
    rw [self_split T.labels k hk, extsL_app, extsL_cons, seqS_append, seqS_append] at h0
    rw [set_split _ k hk, extsL_app, extsL_cons, seqS_append, seqS_append]
    obtain ⟨_, g2, g3⟩ := List.nodup_append.1 h0
    obtain ⟨_, _, g6⟩ := List.nodup_append.1 g2
    refine nodup_mid h0 hnd (fun a ha b hb e => ?_) (fun a ha b hb e => ?_)
    · subst e
      rcases hseq a hb with hc | hc
      · exact g3 a ha a (List.mem_append_left _ hc) rfl
      · refine hc ?_
        rw [self_split T.labels k hk, extsL_app, extsL_cons, seqS_append]
        exact List.mem_append_left _ ha
    · subst e
      rcases hseq a ha with hc | hc
      · exact g6 a hc a hb rfl
      · refine hc ?_
        rw [self_split T.labels k hk, extsL_app, extsL_cons, seqS_append, seqS_append]
        exact List.mem_append_right _ (List.mem_append_right _ hb)
/-- How many labels differ. -/
def cntD (a b : List Lab) : Nat := (a.zip b).countP fun p => !eqL p.1 p.2
theorem cntD_cons (x y : Lab) (a b : List Lab) : cntD (x :: a) (y :: b) = cntD a b + if eqL x y = true then 0 else 1 := by
  unfold cntD
  rw [List.zip_cons_cons, List.countP_cons]
  cases h : eqL x y <;> simp
theorem cntD_self (a : List Lab) : cntD a a = 0 := by
  induction a with
  | nil => rfl
  | cons x a ih => rw [cntD_cons, ih, if_pos ((eqL_iff x x).2 rfl)]
theorem cntD_set : ∀ (a c : List Lab) (k : Nat) (x : Lab), cntD (a.set k x) c ≤ cntD a c + 1
  | [], c, k, x => by simp [cntD]
  | y :: a, [], k, x => by unfold cntD; simp
  | y :: a, z :: c, 0, x => by
    rw [List.set_cons_zero, cntD_cons, cntD_cons]
    split <;> split <;> omega
  | y :: a, z :: c, k + 1, x => by
    rw [List.set_cons_succ, cntD_cons, cntD_cons]
    have := cntD_set a c k x
    omega
theorem cntD_snoc (a b : List Lab) (k : Nat) (h1 : k < a.length) (h2 : k < b.length) : cntD (a.take (k + 1)) (b.take (k + 1)) = cntD (a.take k) (b.take k) + if eqL a[k] b[k] = true then 0 else 1 := by
  unfold cntD
  rw [List.take_succ_eq_append_getElem h1, List.take_succ_eq_append_getElem h2, List.zip_append (by rw [List.length_take, List.length_take]; omega), List.countP_append]
  congr 1
  cases h : eqL a[k] b[k] <;> simp [h]
/-- What a change keeps of a valid table, and how many labels it changes. -/
structure KeepT (T U : Tab) (m : Nat) : Prop where
  good : GoodT U
  name : U.name = T.name
  tracks : U.tracks = T.tracks
  len : U.labels.length = T.labels.length
  diff : cntD U.labels T.labels ≤ m
theorem KeepT.refl (T : Tab) (h : GoodT T) : KeepT T T 0 := ⟨h, rfl, rfl, rfl, by rw [cntD_self]; exact Nat.le_refl _⟩
theorem KeepT.set {T U : Tab} {m : Nat} (h : KeepT T U m) (k : Nat) (x : Lab) (hg : GoodT { U with labels := U.labels.set k x }) : KeepT T { U with labels := U.labels.set k x } (m + 1) :=
  ⟨hg, h.name, h.tracks, by rw [← h.len]; simp, by have := cntD_set U.labels T.labels k x; have := h.diff; show cntD (U.labels.set k x) T.labels ≤ _; omega⟩
theorem free_mem (T : Tab) (h : GoodT T) (i : Nat) : memS (freeT T) i = true → (ttS T.tracks ≤ (i : Int) ∧ (i : Int) < T.tracks) ∧ memS (extsL T.labels) i = false := by
  intro hm
  have hlt := memS_lt _ _ hm
  unfold freeT at hm
  rw [if_pos ((validT_iff T).2 h)] at hm
  unfold freeS at hm
  rw [memS_normS _ i hlt, Bool.and_eq_true, Bool.not_eq_true'] at hm
  unfold freeB at hm
  exact ⟨of_decide_eq_true hm.1, hm.2⟩
theorem chg_ok (T U : Tab) (id unit : Int) (F : Nat → Lab → List Lab × Int) (h : chgT T id unit F = (U, 0)) :
    GoodT T ∧ ∃ (k : Nat) (hk : k < T.labels.length), hitL id unit T.labels[k] = true ∧ (F k T.labels[k]).2 = 0 ∧ U = { T with labels := (F k T.labels[k]).1 } := by
  rcases chgT_cases T id unit F with ⟨_, hx⟩ | ⟨_, _, hx⟩ | ⟨hv, k, hk, _, hhit, hx⟩
  · rw [hx] at h; injection h with _ h; exact absurd h (by decide)
  · rw [hx] at h; injection h with _ h; exact absurd h (by decide)
  rcases hx with ⟨h0, hx⟩ | ⟨h0, hx⟩
  · rw [hx] at h
    injection h with h _
    exact ⟨(validT_iff T).1 hv, k, hk, hhit, h0, h.symm⟩
  · rw [hx] at h
    injection h with _ h
    exact absurd h h0
theorem hit_valid (T : Tab) (h : GoodT T) (id unit : Int) (k : Nat) (hk : k < T.labels.length) (hh : hitL id unit T.labels[k] = true) : emL T.labels[k] = false ∧ validL T.labels[k] T.tracks = true := by
  obtain ⟨h1, h2, _⟩ := (hitL_iff _ _ _).1 hh
  have he := emL_of_id _ (by rw [h2]; exact h1)
  refine ⟨he, ?_⟩
  rcases h.ok _ (List.getElem_mem hk) with h3 | h3
  · rw [he] at h3; cases h3
  · exact h3
theorem same_key (T : Tab) (h : GoodT T) (k : Nat) (hk : k < T.labels.length) (he : emL T.labels[k] = false) (x : Lab) (hx : keyL x = keyL T.labels[k]) :
    ∀ j (hj : j < T.labels.length), j ≠ k → emL T.labels[j] = false → keyL T.labels[j] ≠ keyL x :=
  fun j hj hne h1 e => hne (good_one T h j k hj hk h1 he (by rw [e, hx]))
theorem seq_nonempty (Z : List (Nat × Nat)) (h : (seqL Z).length ≠ 0) : 1 ≤ Z.length := by
  cases Z with
  | nil => exact absurd rfl h
  | cons x Z => simp
theorem create_keeps (T U : Tab) (id unit : Int) (nm nt : ByteArray) (n : Int) (h : createT T id unit nm nt n = (U, 0)) : KeepT T U 1 := by
  unfold createT at h
  by_cases h1 : validT T = true ∧ okNew id unit nm nt n
  rotate_left
  · rw [if_neg h1] at h; injection h with _ h; exact absurd h (by decide)
  rw [if_pos h1] at h
  by_cases h2 : T.labels.any (tentL id) = true
  · rw [if_pos h2] at h; injection h with _ h; exact absurd h (by decide)
  rw [if_neg h2] at h
  by_cases h3 : idxP emL T.labels < 0
  · rw [if_pos h3] at h; injection h with _ h; exact absurd h (by decide)
  rw [if_neg h3] at h
  by_cases h4 : (allocS (memS (freeT T)) n 16).2 = 0
  rotate_left
  · rw [if_neg h4] at h; injection h with _ h; exact absurd h (by decide)
  rw [if_pos h4] at h
  injection h with h _
  subst h
  obtain ⟨hv, i1, i2, i3, i4, i5, i6, i7⟩ := h1
  have hg := (validT_iff T).1 hv
  rcases idxP_cases emL T.labels with ⟨k, hk, e, hp, _⟩ | ⟨e, _⟩
  rotate_left
  · omega
  rw [e, Int.toNat_natCast]
  rcases alloc_ok (freeT T) n 16 i7 (by decide) with ⟨x, hx, a1, a2, a3, a4, a5⟩ | ⟨hx, _⟩
  rotate_left
  · rw [hx] at h4; exact absurd h4 (by decide)
  have hj := alloc_join _ _ _ h4
  rw [hx] at hj ⊢
  simp only [] at hj ⊢
  have hsl : seqS (ints x) = seqL x := seqS_ints x a5
  have hfr : ∀ i ∈ seqS (ints x), (ttS T.tracks ≤ (i : Int) ∧ (i : Int) < T.tracks) ∧ memS (extsL T.labels) i = false := fun i hi => free_mem T hg i (a4 i ((mem_seqS _ i).1 hi))
  refine (KeepT.refl T hg).set k _ (good_set T hg k hk _ (.inr ?_) (.inr ?_) a3 (fun t ht => .inr (fun hm => ?_)))
  · refine valid_mk T.tracks _ x hg.tr ?_ ?_ rfl hj a5 ?_ (by omega) (by rw [← hsl]; exact a3) (fun i hi => (hfr i (by rw [hsl]; exact hi)).1)
    · unfold idB; exact decide_eq_true ⟨i1, i2, by show 0 ≤ unit; omega, i4⟩
    · unfold txB; exact decide_eq_true ⟨i5, i6⟩
    · refine seq_nonempty x ?_
      rw [← hsl, seqS_len]
      omega
  · intro j hj _ _ he
    unfold keyL at he
    injection he with e1 e2
    have hu : decide (0 < unit) = true := decide_eq_true (by omega)
    refine h2 (List.any_eq_true.2 ⟨_, List.getElem_mem hj, ?_⟩)
    unfold tentL
    simp only [] at e1 e2
    rw [e2, e1, hu]
    simp
  · have := (hfr t ht).2
    rw [(mem_seqS _ t).1 hm] at this
    cases this
theorem extend_keeps (T U : Tab) (id unit n : Int) (h : chgT T id unit (chExt T n) = (U, 0)) : KeepT T U 1 := by
  obtain ⟨hg, k, hk, hh, h0, rfl⟩ := chg_ok T U id unit _ h
  obtain ⟨he, hvl⟩ := hit_valid T hg id unit k hk hh
  obtain ⟨_, hid, htx, _, _, _⟩ := validL_parts _ _ hvl
  obtain ⟨r1, r2, r3, r4, r5, r6⟩ := valid_runs _ _ hvl
  unfold chExt at h0 ⊢
  simp only [] at h0 ⊢
  obtain ⟨M, m1, m2, m3, m4, m5, m6, m7, m8, m9⟩ := ext_ok _ _ _ h0
  have hb := extS_bd T.labels[k].ext (freeT T) n
  have hj := ext_join _ _ _ h0
  have hsl := seqS_ints _ hb
  have hfr : ∀ i ∈ M, (ttS T.tracks ≤ (i : Int) ∧ (i : Int) < T.tracks) ∧ memS (extsL T.labels) i = false := fun i hi => free_mem T hg i (m6 i hi).1
  have hnd : (seqS (ints (extS T.labels[k].ext (freeT T) n).1)).Nodup := by
    rw [m1]
    refine List.nodup_append.2 ⟨r2, m5, fun a ha b hb e => ?_⟩
    subst e
    have := (m6 a hb).2
    rw [(mem_seqS _ a).1 ha] at this
    cases this
  refine (KeepT.refl T hg).set k _ (good_set T hg k hk _ (.inr ?_) (.inr (same_key T hg k hk he _ rfl)) hnd (fun t ht => ?_))
  · refine valid_mk T.tracks _ _ hg.tr hid htx rfl hj hb ?_ (by omega) (by rw [← hsl]; exact hnd) (fun i hi => ?_)
    · refine seq_nonempty _ ?_
      rw [← hsl, m1, List.length_append, seqS_len]
      omega
    · rw [← hsl, m1] at hi
      rcases List.mem_append.1 hi with hi | hi
      · exact r3 i hi
      · exact (hfr i hi).1
  · simp only [] at ht
    rw [m1] at ht
    rcases List.mem_append.1 ht with ht | ht
    · exact .inl ht
    · refine .inr (fun hm => ?_)
      have := (hfr t ht).2
      rw [(mem_seqS _ t).1 hm] at this
      cases this
theorem release_keeps (T U : Tab) (id unit n : Int) (h : chgT T id unit (chRel T n) = (U, 0)) : KeepT T U 1 := by
  obtain ⟨hg, k, hk, hh, h0, rfl⟩ := chg_ok T U id unit _ h
  obtain ⟨he, hvl⟩ := hit_valid T hg id unit k hk hh
  obtain ⟨_, hid, htx, _, _, _⟩ := validL_parts _ _ hvl
  obtain ⟨r1, r2, r3, r4, r5, r6⟩ := valid_runs _ _ hvl
  unfold chRel at h0 ⊢
  simp only [] at h0 ⊢
  unfold relE at h0
  unfold relA
  by_cases hc : n < 1 ∨ (sizeS T.labels[k].ext : Int) < n
  · rw [if_pos hc] at h0; exact absurd h0 (by decide)
  rw [if_neg hc]
  have hs : seqS (ints (joinS (ints (cutA T.labels[k].ext n.toNat)))) = (seqS T.labels[k].ext).take n.toNat := by rw [seqS_joinS, seq_cutA]
  have hb := joinS_bd (ints (cutA T.labels[k].ext n.toNat))
  have hsl := seqS_ints _ hb
  have hnd : (seqS (ints (joinS (ints (cutA T.labels[k].ext n.toNat))))).Nodup := by rw [hs]; exact r2.sublist (List.take_sublist _ _)
  have hsz : (seqS T.labels[k].ext).length = sizeS T.labels[k].ext := seqS_len _
  refine (KeepT.refl T hg).set k _ (good_set T hg k hk _ (.inr ?_) (.inr (same_key T hg k hk he _ rfl)) hnd (fun t ht => ?_))
  · refine valid_mk T.tracks _ _ hg.tr hid htx rfl (by rw [joinS_seq]; exact joinT_idem _) hb ?_ ?_ (by rw [← hsl]; exact hnd) (fun i hi => ?_)
    · refine seq_nonempty _ ?_
      rw [← hsl, hs, List.length_take]
      omega
    · have h1 := joinS_len (ints (cutA T.labels[k].ext n.toNat))
      have h2 : (cutA T.labels[k].ext n.toNat).length ≤ T.labels[k].ext.length := by
        have : ∀ (l : List (Int × Int)) (n : Nat), (cutA l n).length ≤ l.length := by
          intro l
          induction l with
          | nil => intro n; exact Nat.le_refl _
          | cons r l ih => intro n; have := ih (n - (clipS r).2); simp only [cutA, List.length_cons]; omega
        exact this _ _
      rw [ints_len] at h1
      omega
    · rw [← hsl, hs] at hi
      exact r3 i (List.mem_of_mem_take hi)
  · simp only [] at ht
    rw [hs] at ht
    exact .inl (List.mem_of_mem_take ht)
theorem replace_keeps (T U : Tab) (id unit : Int) (ex : List (Int × Int)) (h : chgT T id unit (chRep T ex) = (U, 0)) : KeepT T U 1 := by
  obtain ⟨hg, k, hk, hh, h0, rfl⟩ := chg_ok T U id unit _ h
  unfold chRep at h0 ⊢
  simp only [] at h0 ⊢
  by_cases hc : sizeS ex = sizeS T.labels[k].ext ∧ validT { T with labels := T.labels.set k { T.labels[k] with ext := ex } } = true
  rotate_left
  · rw [if_neg hc] at h0; exact absurd h0 (by decide)
  exact (KeepT.refl T hg).set k _ ((validT_iff _).1 hc.2)
theorem note_keeps (T U : Tab) (id unit : Int) (note : ByteArray) (h : chgT T id unit (chNote T note) = (U, 0)) : KeepT T U 1 := by
  obtain ⟨hg, k, hk, hh, h0, rfl⟩ := chg_ok T U id unit _ h
  obtain ⟨he, hvl⟩ := hit_valid T hg id unit k hk hh
  obtain ⟨h1, h2, h3, h4, h5, h6⟩ := validL_parts _ _ hvl
  obtain ⟨_, r2, _⟩ := valid_runs _ _ hvl
  unfold chNote at h0 ⊢
  by_cases hc : 400 < note.size
  · rw [if_pos hc] at h0; cases h0
  rw [if_neg hc]
  refine (KeepT.refl T hg).set k _ (good_set T hg k hk _ (.inr ?_) (.inr (same_key T hg k hk he _ rfl)) r2 (fun t ht => .inl ht))
  have h3' : txB { T.labels[k] with note := note } = true := by
    unfold txB at h3 ⊢
    have := of_decide_eq_true h3
    exact decide_eq_true ⟨this.1, by show note.size ≤ 400; omega⟩
  unfold validL
  rw [h1, h3', show idB { T.labels[k] with note := note } = true from h2, show cnB { T.labels[k] with note := note } = true from h4, show jnB { T.labels[k] with note := note } = true from h5, show inB { T.labels[k] with note := note } T.tracks = true from h6]
  rfl
theorem zero_good (T : Tab) (hg : GoodT T) (k : Nat) (hk : k < T.labels.length) : GoodT { T with labels := T.labels.set k labZ } :=
  good_set T hg k hk labZ (.inl ((emL_iff _).2 rfl)) (.inl ((emL_iff _).2 rfl)) (by decide) (fun t ht => by cases ht)
theorem remove_keeps (T U : Tab) (id unit : Int) (h : chgT T id unit (chRem T) = (U, 0)) : KeepT T U 1 := by
  obtain ⟨hg, k, hk, hh, h0, rfl⟩ := chg_ok T U id unit _ h
  exact (KeepT.refl T hg).set k _ (zero_good T hg k hk)
theorem confirm_keeps (T U : Tab) (id unit : Int) (note : ByteArray) (h : chgT T id unit (chCon T id note) = (U, 0)) : KeepT T U 2 := by
  obtain ⟨hg, k, hk, hh, h0, rfl⟩ := chg_ok T U id unit _ h
  obtain ⟨he, hvl⟩ := hit_valid T hg id unit k hk hh
  obtain ⟨h1, h2, h3, h4, h5, h6⟩ := validL_parts _ _ hvl
  obtain ⟨_, r2, _⟩ := valid_runs _ _ hvl
  obtain ⟨i1, i2, i3⟩ := (hitL_iff _ _ _).1 hh
  unfold chCon at h0 ⊢
  by_cases hu : T.labels[k].unit = 0
  · rw [if_pos hu] at h0; cases h0
  rw [if_neg hu] at h0 ⊢
  by_cases hc : 400 < note.size
  · rw [if_pos hc] at h0; cases h0
  rw [if_neg hc]
  simp only []
  have hnew : validL { T.labels[k] with unit := 0, note := note } T.tracks = true := by
    have h3' : txB { T.labels[k] with unit := 0, note := note } = true := by
      unfold txB at h3 ⊢
      have := of_decide_eq_true h3
      exact decide_eq_true ⟨this.1, by show note.size ≤ 400; omega⟩
    have h2' : idB { T.labels[k] with unit := 0, note := note } = true := by
      unfold idB at h2 ⊢
      have := of_decide_eq_true h2
      exact decide_eq_true ⟨this.1, this.2.1, Int.le_refl 0, (by show (0 : Int) ≤ 1099511627776; omega)⟩
    unfold validL
    rw [h1, h3', h2', show cnB { T.labels[k] with unit := 0, note := note } = true from h4, show jnB { T.labels[k] with unit := 0, note := note } = true from h5, show inB { T.labels[k] with unit := 0, note := note } T.tracks = true from h6]
    rfl
  have hkn : keyL { T.labels[k] with unit := 0, note := note } = (id, false) := by unfold keyL; rw [show T.labels[k].id = id from i2]; rfl
  -- a label of this key is the true one
  have hhit0 : ∀ j (hj : j < T.labels.length), emL T.labels[j] = false → keyL T.labels[j] = (id, false) → hitL id 0 T.labels[j] = true := fun j hj e1 e2 => by
    unfold keyL at e2
    injection e2 with e3 e4
    rcases hg.ok _ (List.getElem_mem hj) with h9 | h9
    · rw [e1] at h9; cases h9
    · have := (validL_ids _ _ h9).2.1
      have := of_decide_eq_false e4
      exact (hitL_iff _ _ _).2 ⟨i1, e3, by omega⟩
  rcases idxP_cases (hitL id 0) T.labels with ⟨i, hi, ei, hpi, _⟩ | ⟨ei, hno⟩
  · rw [show idxT T id 0 = (i : Int) from ei, if_pos (by omega), Int.toNat_natCast]
    obtain ⟨_, p2, p3⟩ := (hitL_iff _ _ _).1 hpi
    have hik : i ≠ k := fun e => by subst e; exact hu p3
    have hz := zero_good T hg i hi
    have hlk : k < (T.labels.set i labZ).length := by rw [List.length_set]; exact hk
    have hgk : (T.labels.set i labZ)[k] = T.labels[k] := List.getElem_set_ne hik _
    refine ((KeepT.refl T hg).set i labZ hz).set k _ (good_set { T with labels := T.labels.set i labZ } hz k hlk _ (.inr hnew) (.inr ?_) r2 (fun t ht => .inl (by show t ∈ seqS ((T.labels.set i labZ)[k]).ext; rw [hgk]; exact ht)))
    intro j hj hjk e1 e2
    rw [hkn] at e2
    have hj' : j < T.labels.length := by simpa using hj
    by_cases hji : j = i
    · subst hji
      have : emL (T.labels.set j labZ)[j] = true := by rw [List.getElem_set_self]; exact (emL_iff _).2 rfl
      have e1' : emL (T.labels.set j labZ)[j] = false := e1
      rw [this] at e1'
      cases e1'
    · have hgj : (T.labels.set i labZ)[j] = T.labels[j] := List.getElem_set_ne (fun e => hji e.symm) _
      have e1' : emL (T.labels.set i labZ)[j] = false := e1
      have e2' : keyL (T.labels.set i labZ)[j] = (id, false) := e2
      rw [hgj] at e1' e2'
      obtain ⟨_, q2, q3⟩ := (hitL_iff _ _ _).1 (hhit0 j hj' e1' e2')
      exact hji (good_hit T hg id 0 j i hj' hi q2 p2 i1 (by rw [q3, p3]))
  · rw [show idxT T id 0 = -1 from ei, if_neg (by decide)]
    have := (KeepT.refl T hg).set k _ (good_set T hg k hk { T.labels[k] with unit := 0, note := note } (.inr hnew) (.inr (fun j hj hjk e1 e2 => by
      rw [hkn] at e2
      have := hno _ (List.getElem_mem hj)
      rw [hhit0 j hj e1 e2] at this
      cases this)) r2 (fun t ht => .inl ht))
    exact ⟨this.good, this.name, this.tracks, this.len, Nat.le_trans this.diff (by decide)⟩
theorem do_keeps (T U : Tab) (id unit : Int) (nm nt : ByteArray) (n : Int) (ex : List (Int × Int)) (r : Int) (h : doT T id unit nm nt n ex r = (U, 0)) : KeepT T U (if r = 4 then 2 else 1) := by
  unfold doT at h
  by_cases h0 : r = 0
  · rw [if_pos h0] at h; rw [if_neg (by omega)]; exact create_keeps _ _ _ _ _ _ _ h
  rw [if_neg h0] at h
  by_cases h1 : r = 1
  · rw [if_pos h1] at h; rw [if_neg (by omega)]; exact extend_keeps _ _ _ _ _ h
  rw [if_neg h1] at h
  by_cases h2 : r = 2
  · rw [if_pos h2] at h; rw [if_neg (by omega)]; exact release_keeps _ _ _ _ _ h
  rw [if_neg h2] at h
  by_cases h3 : r = 3
  · rw [if_pos h3] at h; rw [if_neg (by omega)]; exact replace_keeps _ _ _ _ _ h
  rw [if_neg h3] at h
  by_cases h4 : r = 4
  · rw [if_pos h4] at h ⊢; exact confirm_keeps _ _ _ _ _ h
  rw [if_neg h4] at h ⊢
  by_cases h5 : r = 5
  · rw [if_pos h5] at h; exact note_keeps _ _ _ _ _ h
  rw [if_neg h5] at h
  exact remove_keeps _ _ _ _ h
theorem chg_err (T U : Tab) (id unit : Int) (F : Nat → Lab → List Lab × Int) (er : Int) (h : chgT T id unit F = (U, er)) (he : er ≠ 0) : U = tabZ := by
  rcases chgT_cases T id unit F with ⟨_, hx⟩ | ⟨_, _, hx⟩ | ⟨hv, k, hk, _, hhit, hx⟩
  · rw [hx] at h; injection h with h _; exact h.symm
  · rw [hx] at h; injection h with h _; exact h.symm
  rcases hx with ⟨h0, hx⟩ | ⟨h0, hx⟩
  · rw [hx] at h; injection h with _ h; exact absurd h.symm he
  · rw [hx] at h; injection h with h _; exact h.symm
theorem do_err (T U : Tab) (id unit : Int) (nm nt : ByteArray) (n : Int) (ex : List (Int × Int)) (r er : Int) (h : doT T id unit nm nt n ex r = (U, er)) (he : er ≠ 0) : U = tabZ := by
  unfold doT at h
  split at h
  · unfold createT at h
    repeat' split at h
    all_goals (injection h with h1 h2; first | exact h1.symm | exact absurd h2.symm he)
  repeat' split at h
  all_goals exact chg_err _ _ _ _ _ _ h he
/-- Free tracks and extents are a partition. -/
theorem norm_interval (a c : Nat) (h : a + c ≤ 128) (hc : 0 < c) : normS (fun i => decide (a ≤ i ∧ i < a + c)) = [(a, c)] := by
  have e : (List.range 128).filter (fun i => decide (a ≤ i ∧ i < a + c)) = seqN (a, c) := by
    rw [show 128 = a + (c + (128 - a - c)) from by omega, List.range_add, List.range_add, List.map_append, List.filter_append, List.filter_append]
    rw [List.filter_eq_nil_iff.2 (fun i hi => by have := List.mem_range.1 hi; simp; omega), List.nil_append]
    rw [List.filter_eq_self.2 (fun i hi => by obtain ⟨j, hj, rfl⟩ := List.mem_map.1 hi; have := List.mem_range.1 hj; simp; omega)]
    rw [List.filter_eq_nil_iff.2 (fun i hi => by obtain ⟨j, hj, rfl⟩ := List.mem_map.1 hi; obtain ⟨m, hm, rfl⟩ := List.mem_map.1 hj; simp), List.append_nil]
    rfl
  show normTo _ 128 = _
  rw [normTo_joinT, e]
  unfold joinT
  rw [← stepJ_seq]
  unfold stepJ
  rw [if_neg (by simp only []; omega), if_neg (fun h => h.1 rfl)]
  rfl
theorem exts_in (T : Tab) (h : GoodT T) (i : Nat) (hi : i ∈ seqS (extsL T.labels)) : ttS T.tracks ≤ (i : Int) ∧ (i : Int) < T.tracks := by
  unfold seqS extsL at hi
  obtain ⟨r, hr, hir⟩ := List.mem_flatMap.1 hi
  obtain ⟨l, hl, hrl⟩ := List.mem_flatMap.1 hr
  have hil : i ∈ seqS l.ext := List.mem_flatMap.2 ⟨r, hrl, hir⟩
  rcases h.ok l hl with he | hv
  · rw [emL_ext l he] at hrl; cases hrl
  · exact (valid_runs _ _ hv).2.2.1 i hil
theorem part_facts (U : Tab) (h : GoodT U) : (seqS (freeT U ++ extsL U.labels)).Nodup ∧ ints (normS (memS (freeT U ++ extsL U.labels))) = [(ttS U.tracks, U.tracks - ttS U.tracks)] := by
  have ht := h.tr
  have htt : ttS U.tracks = (U.tracks + 3) / 4 := by unfold ttS; rw [if_pos ht]
  unfold okT at ht
  have ht' := of_decide_eq_true ht
  have hf : freeT U = ints (normS fun i => freeB (ttS U.tracks) U.tracks i && !memS (extsL U.labels) i) := by unfold freeT; rw [if_pos ((validT_iff U).2 h)]; rfl
  constructor
  · rw [seqS_append]
    refine List.nodup_append.2 ⟨by rw [hf, seqS_normS]; exact List.nodup_range.filter _, h.seq, fun a ha b hb e => ?_⟩
    subst e
    have := (free_mem U h a ((mem_seqS _ a).1 ha)).2
    rw [(mem_seqS _ a).1 hb] at this
    cases this
  · obtain ⟨a, ha⟩ : ∃ a : Nat, ttS U.tracks = (a : Int) := ⟨(ttS U.tracks).toNat, by omega⟩
    obtain ⟨c, hc⟩ : ∃ c : Nat, U.tracks - ttS U.tracks = (c : Int) := ⟨(U.tracks - ttS U.tracks).toNat, by omega⟩
    rw [normS_congr (T := fun i => decide (a ≤ i ∧ i < a + c)) (fun i hi => ?_), norm_interval a c (by omega) (by omega), hc, ha]
    · rfl
    · rw [Bool.eq_iff_iff, decide_eq_true_eq]
      have hm : memS (freeT U ++ extsL U.labels) i = (memS (freeT U) i || memS (extsL U.labels) i) := by unfold memS; rw [List.any_append]
      rw [hm, Bool.or_eq_true]
      constructor
      · rintro (h1 | h1)
        · have := (free_mem U h i h1).1; omega
        · have := exts_in U h i ((mem_seqS _ i).2 h1); omega
      · intro h1
        cases hx : memS (extsL U.labels) i with
        | true => exact .inr rfl
        | false =>
          left
          rw [hf, memS_normS _ i hi, hx, Bool.and_eq_true]
          exact ⟨by unfold freeB; exact decide_eq_true (by omega), rfl⟩
end Go.Proofs.Ytnlaogneceanoaa
namespace Go.Proofs.Ytnlaogneceanoaa
set_option linter.unusedVariables false
set_option linter.unusedSimpArgs false
set_option linter.unusedSectionVars false
open Go.RowKit
/-- The pieces of 128 bytes. -/
def cutS (s : ByteArray) : List ByteArray := (List.range (s.size / 128)).map fun i => s.extract (128 * i) (128 * i + 128)
theorem cutS_len (s : ByteArray) : (cutS s).length = s.size / 128 := by unfold cutS; simp
theorem cutS_get (s : ByteArray) (i : Nat) (h : i < (cutS s).length) : (cutS s)[i] = s.extract (128 * i) (128 * i + 128) := by simp [cutS]
theorem cutS_app (a b : ByteArray) (ha : a.size % 128 = 0) : cutS (a ++ b) = cutS a ++ cutS b := by
  have hs : (a ++ b).size / 128 = a.size / 128 + b.size / 128 := by rw [ByteArray.size_append]; omega
  refine List.ext_getElem (by rw [List.length_append, cutS_len, cutS_len, cutS_len, hs]) (fun i h1 h2 => ?_)
  rw [cutS_len, hs] at h1
  by_cases hi : i < a.size / 128
  · rw [List.getElem_append_left (by rw [cutS_len]; exact hi)]
    rw [cutS_get, cutS_get, ByteArray.extract_append]
    have h0 : b.extract (128 * i - a.size) (128 * i + 128 - a.size) = ⟨#[]⟩ := by
      have h9 : 128 * i + 128 - a.size = 0 := by omega
      have h8 : 128 * i - a.size = 0 := by omega
      rw [h9, h8]
      apply ByteArray.ext
      simp
    rw [h0]
    exact ByteArray.append_empty
  · rw [List.getElem_append_right (by rw [cutS_len]; omega)]
    rw [cutS_get, cutS_get, ByteArray.extract_append]
    have h0 : a.extract (128 * i) (128 * i + 128) = ⟨#[]⟩ := by
      apply ByteArray.ext
      simp
      omega
    rw [h0, cutS_len]
    have e1 : 128 * i - a.size = 128 * (i - a.size / 128) := by omega
    have e2 : 128 * i + 128 - a.size = 128 * (i - a.size / 128) + 128 := by omega
    rw [e1, e2]
    exact ByteArray.empty_append
/-- What follows the first k pieces. -/
def restS (s : ByteArray) (k : Nat) : ByteArray := s.extract (128 * k) s.size
theorem restS_zero (s : ByteArray) : restS s 0 = s := by unfold restS; simp
theorem restS_size (s : ByteArray) (k : Nat) (h : 128 * k ≤ s.size) : (restS s k).size = s.size - 128 * k := by unfold restS; simp
theorem restS_next (s : ByteArray) (k : Nat) (h : 128 * k + 128 ≤ s.size) : (restS s k).extract 128 (restS s k).size = restS s (k + 1) := by
  rw [restS_size s k (by omega)]
  unfold restS
  rw [ByteArray.extract_extract]
  congr 1 <;> omega
theorem restS_head (s : ByteArray) (k : Nat) (h : 128 * k + 128 ≤ s.size) : (restS s k).extract 0 128 = s.extract (128 * k) (128 * k + 128) := by
  unfold restS
  rw [ByteArray.extract_extract]
  congr 1
  omega
theorem cutS_take (s : ByteArray) (k : Nat) (h : 128 * k + 128 ≤ s.size) : (cutS s).take (k + 1) = (cutS s).take k ++ [s.extract (128 * k) (128 * k + 128)] := by
  have hk : k < (cutS s).length := by rw [cutS_len]; omega
  rw [List.take_succ_eq_append_getElem hk]
  rw [cutS_get]
/-- The sectors of a table. -/
def bodyS (T : Tab) (k : Nat) : ByteArray := ((T.labels.take k).map fun l => encS l T.tracks).foldl (· ++ ·) (headS T.name T.tracks)
def secT (T : Tab) : List ByteArray := if validT T = true then cutS (bodyS T T.labels.length) else []
theorem bodyS_zero (T : Tab) : bodyS T 0 = headS T.name T.tracks := rfl
theorem bodyS_next (T : Tab) (k : Nat) (h : k < T.labels.length) : bodyS T (k + 1) = bodyS T k ++ encS T.labels[k] T.tracks := by
  unfold bodyS
  rw [List.take_succ_eq_append_getElem h, List.map_append, List.foldl_append]
  rfl
end Go.Proofs.Ytnlaogneceanoaa
namespace Go.Proofs.Ytnlaogneceanoaa
set_option linter.unusedVariables false
set_option linter.unusedSimpArgs false
set_option linter.unusedSectionVars false
open Go.RowKit
attribute [local go_sem ↓] Go.wp_at_zero Go.wp_at_succ
def strC (s : ByteArray) : List Value := [.string s]
theorem info_str : (Try.prog.info? 9).map (fun i => (i.zero, i.size, i.bytes)) = some (some (.string ⟨#[]⟩), 1, 16) := by kernel_rfl
end Go.Proofs.Ytnlaogneceanoaa
namespace Go.Proofs.Ytnlaogneceanoaa
set_option linter.unusedVariables false
set_option linter.unusedSimpArgs false
set_option linter.unusedSectionVars false
open Go.RowKit
attribute [local go_sem ↓] Go.wp_at_zero Go.wp_at_succ
theorem OwnL.lower2 {w : World} {b b' e sz : Nat} {v : Value} {rows : List (List Value)} (h : OwnL w b e sz v rows) (hb : b' ≤ b) : OwnL w b' e sz v rows := by
  refine ⟨h.1, h.2.1, ?_⟩
  rcases h.2.2 with h0 | ⟨g, cap, cur, h1, h2, h3⟩
  · exact .inl h0
  · exact .inr ⟨g, cap, cur, h1, Nat.le_trans hb h2, h3⟩
section
variable (A : Option Addr) (c : Nat) (xs : List LabE) (T : Tab) (w : World)
end
end Go.Proofs.Ytnlaogneceanoaa
namespace Go.Proofs.Ytnlaogneceanoaa
set_option linter.unusedVariables false
set_option linter.unusedSimpArgs false
set_option linter.unusedSectionVars false
open Go.RowKit
attribute [local go_sem ↓] Go.wp_at_zero Go.wp_at_succ
theorem lab_1024 (t : Int) (ht : okT t = true) (l : Lab) (h : emL l = true ∨ validL l t = true) : (encS l t).size = 1024 := by
  rcases h with h | h
  · unfold encS
    rw [if_pos ⟨ht, h⟩]
    exact padS_size _ _ (by decide)
  · exact encS_size l t h
theorem head_1024 (T : Tab) (h : validT T = true) : (headS T.name T.tracks).size = 1024 := by
  have hg := (validT_iff T).1 h
  have hp : NameP T.name := of_decide_eq_true hg.nm
  unfold headS
  rw [if_pos ⟨hg.nm, hg.tr⟩]
  refine padS_size _ _ ?_
  have := hp.2.1
  have z1 := eB_size T.name.size
  have z2 := eB_size T.tracks.toNat
  rw [ByteArray.size_append, ByteArray.size_append]
  omega
theorem body_size (T : Tab) (h : validT T = true) : ∀ k, k ≤ T.labels.length → (bodyS T k).size = 1024 * (k + 1) := by
  intro k
  induction k with
  | zero => intro _; rw [bodyS_zero, head_1024 T h]
  | succ k ih =>
    intro hk
    have hg := (validT_iff T).1 h
    rw [bodyS_next T k (by omega), ByteArray.size_append, ih (by omega), lab_1024 T.tracks hg.tr _ (hg.ok _ (List.getElem_mem _))]
    omega
theorem cut_next (T : Tab) (h : validT T = true) (k : Nat) (hk : k < T.labels.length) : cutS (bodyS T (k + 1)) = cutS (bodyS T k) ++ cutS (encS T.labels[k] T.tracks) := by
  rw [bodyS_next T k hk]
  exact cutS_app _ _ (by rw [body_size T h k (by omega)]; omega)
section
variable (A : Option Addr) (c : Nat) (xs : List LabE) (T : Tab) (w : World)
end
end Go.Proofs.Ytnlaogneceanoaa
namespace Go.Proofs.Ytnlaogneceanoaa
set_option linter.unusedVariables false
set_option linter.unusedSimpArgs false
set_option linter.unusedSectionVars false
open Go.RowKit
attribute [local go_sem ↓] Go.wp_at_zero Go.wp_at_succ
def wrC (p : Int × ByteArray) : List Value := [.int .i64 p.1, .string p.2]
end Go.Proofs.Ytnlaogneceanoaa
namespace Go.Proofs.Ytnlaogneceanoaa
set_option linter.unusedVariables false
set_option linter.unusedSimpArgs false
set_option linter.unusedSectionVars false
open Go.RowKit
attribute [local go_sem ↓] Go.wp_at_zero Go.wp_at_succ
theorem sec_valid (T : Tab) (h : (secT T).length ≠ 0) : validT T = true := by
  cases hv : validT T with
  | true => rfl
  | false => exfalso; apply h; unfold secT; rw [if_neg (by rw [hv]; simp)]; rfl
theorem sec_len (T : Tab) (h : (secT T).length ≠ 0) : (secT T).length = 8 * (T.labels.length + 1) := by
  have hv := sec_valid T h
  unfold secT
  rw [if_pos hv, cutS_len, body_size T hv _ (Nat.le_refl _)]
  omega
theorem sec_short (T : Tab) (hs : T.labels.length ≤ 1000) : (secT T).length ≤ 10000 := by
  by_cases h : (secT T).length = 0
  · omega
  · rw [sec_len T h]; omega
theorem sec_same (T U : Tab) (h1 : (secT T).length ≠ 0) (h2 : (secT U).length ≠ 0) (ht : T.tracks = U.tracks) : (secT T).length = (secT U).length := by
  have g1 := ((validT_iff T).1 (sec_valid T h1)).len
  have g2 := ((validT_iff U).1 (sec_valid U h2)).len
  rw [sec_len T h1, sec_len U h2]
  rw [ht] at g1
  omega
def diffP (X Y : List ByteArray) (k : Nat) : List (Int × ByteArray) := ((List.range k).filter fun i => decide (X.getD i ⟨#[]⟩ ≠ Y.getD i ⟨#[]⟩)).map fun (i : Nat) => ((i : Int), Y.getD i ⟨#[]⟩)
def diffT (T U : Tab) : List (Int × ByteArray) := if (secT T).length = (secT U).length ∧ T.tracks = U.tracks then diffP (secT T) (secT U) (secT T).length else []
theorem diffP_eq (X Y : List ByteArray) (k : Nat) (h1 : k < X.length) (h2 : k < Y.length) (h : X[k] = Y[k]) : diffP X Y (k + 1) = diffP X Y k := by
  unfold diffP
  rw [List.range_succ, List.filter_append, List.map_append]
  simp [List.getD_eq_getElem?_getD, List.getElem?_eq_getElem h1, List.getElem?_eq_getElem h2, h]
theorem diffP_ne (X Y : List ByteArray) (k : Nat) (h1 : k < X.length) (h2 : k < Y.length) (h : ¬ X[k] = Y[k]) : diffP X Y (k + 1) = diffP X Y k ++ [((k : Int), Y[k])] := by
  unfold diffP
  rw [List.range_succ, List.filter_append, List.map_append]
  simp [List.getD_eq_getElem?_getD, List.getElem?_eq_getElem h1, List.getElem?_eq_getElem h2, h]
theorem diffP_len (X Y : List ByteArray) (k : Nat) : (diffP X Y k).length ≤ k := by
  unfold diffP
  rw [List.length_map]
  have h9 := List.length_filter_le (fun i => decide (X.getD i ⟨#[]⟩ ≠ Y.getD i ⟨#[]⟩)) (List.range k)
  rw [List.length_range] at h9
  exact h9
theorem info_write : (Try.prog.info? 67).map (fun i => (i.zero, i.size, i.bytes)) = some (some (.agg #[.int .i64 0, .string ⟨#[]⟩]), 2, 24) := by kernel_rfl
end Go.Proofs.Ytnlaogneceanoaa
namespace Go.Proofs.Ytnlaogneceanoaa
set_option linter.unusedVariables false
set_option linter.unusedSimpArgs false
set_option linter.unusedSectionVars false
open Go.RowKit
/-- The strings of a list, one behind the other. -/
def catS (l : List ByteArray) : ByteArray := l.foldl (· ++ ·) ⟨#[]⟩
theorem catS_snoc (l : List ByteArray) (x : ByteArray) : catS (l ++ [x]) = catS l ++ x := by unfold catS; rw [List.foldl_append]; rfl
theorem cutS_mem (s : ByteArray) : ∀ x ∈ cutS s, x.size = 128 := by
  intro x hx
  obtain ⟨i, hi, rfl⟩ := List.getElem_of_mem hx
  rw [cutS_len] at hi
  rw [cutS_get, ByteArray.size_extract]
  omega
theorem cat_take (s : ByteArray) : ∀ k, 128 * k ≤ s.size → catS ((cutS s).take k) = s.extract 0 (128 * k) := by
  intro k
  induction k with
  | zero => intro _; simp [catS]; rfl
  | succ k ih =>
    intro hk
    rw [cutS_take s k (by omega), catS_snoc, ih (by omega)]
    rw [ByteArray.extract_append_extract]
    congr 1 <;> omega
theorem cat_cut (s : ByteArray) (h : s.size % 128 = 0) : catS (cutS s) = s := by
  have h1 := cat_take s (s.size / 128) (by omega)
  rw [List.take_of_length_le (by rw [cutS_len]; omega)] at h1
  rw [h1]
  have : 128 * (s.size / 128) = s.size := by omega
  rw [this]
  simp
/-- The track that starts at sector 8 n. -/
def trkS (ss : List ByteArray) (n : Nat) : ByteArray := catS ((ss.drop (8 * n)).take 8)
theorem sec_split (T : Tab) (hv : validT T = true) : ∀ d k, k + d = T.labels.length → ∃ R, cutS (bodyS T T.labels.length) = cutS (bodyS T k) ++ R := by
  intro d
  induction d with
  | zero => intro k hk; exact ⟨[], by rw [List.append_nil]; congr 2; omega⟩
  | succ d ih =>
    intro k hk
    obtain ⟨R, hR⟩ := ih (k + 1) (by omega)
    rw [hR, cut_next T hv k (by omega), List.append_assoc]
    exact ⟨_, rfl⟩
theorem sec_facts (T : Tab) (hv : validT T = true) (ss : List ByteArray) (h : secT T = ss) :
    ss.length = 8 * (T.labels.length + 1) ∧ (∀ x ∈ ss, x.size = 128) ∧ trkS ss 0 = headS T.name T.tracks ∧ ∀ k (hk : k < T.labels.length), trkS ss (k + 1) = encS T.labels[k] T.tracks := by
  unfold secT at h
  rw [if_pos hv] at h
  subst h
  refine ⟨by rw [cutS_len, body_size T hv _ (Nat.le_refl _)]; omega, cutS_mem _, ?_, fun k hk => ?_⟩
  · obtain ⟨R, hR⟩ := sec_split T hv T.labels.length 0 (by omega)
    have h1 := head_1024 T hv
    unfold trkS
    rw [hR, bodyS_zero, Nat.mul_zero, List.drop_zero, List.take_append_of_le_length (by rw [cutS_len, h1]; decide), List.take_of_length_le (by rw [cutS_len, h1]; decide), cat_cut _ (by rw [h1])]
  · obtain ⟨R, hR⟩ := sec_split T hv (T.labels.length - (k + 1)) (k + 1) (by omega)
    have h1 := body_size T hv k (by omega)
    have h2 := lab_1024 T.tracks ((validT_iff T).1 hv).tr T.labels[k] (((validT_iff T).1 hv).ok _ (List.getElem_mem hk))
    unfold trkS
    rw [hR, cut_next T hv k hk, List.append_assoc, List.drop_append_of_le_length (by rw [cutS_len, h1]; omega), List.drop_of_length_le (by rw [cutS_len, h1]; omega), List.nil_append]
    rw [List.take_append_of_le_length (by rw [cutS_len, h2]; decide), List.take_of_length_le (by rw [cutS_len, h2]; decide), cat_cut _ (by rw [h2])]
theorem lab_trip (l : Lab) (t : Int) (ht : okT t = true) (h : emL l = true ∨ validL l t = true) : decP (encS l t) t = (l, 0) := by
  rcases h with h | h
  · rw [(emL_iff l).1 h]
    have e1 : encS labZ t = padS 1024 ⟨#[]⟩ := by unfold encS; rw [if_pos ⟨ht, (eqL_iff _ _).2 rfl⟩]
    have e2 : (padS 1024 ⟨#[]⟩).size = 1024 := padS_size _ _ (by decide)
    unfold decP
    rw [e1, if_neg (by rw [ht, e2]; simp), if_pos rfl]
  · exact dec_enc_lab l t h (encS_size l t h)
/-- The tables with these sectors. -/
def SecOf (ss : List ByteArray) (T : Tab) : Prop := validT T = true ∧ secT T = ss
theorem SecOf.lab {ss : List ByteArray} {T : Tab} (h : SecOf ss T) (k : Nat) (hk : k < T.labels.length) : decP (trkS ss (k + 1)) T.tracks = (T.labels[k], 0) := by
  have hg := (validT_iff T).1 h.1
  rw [(sec_facts T h.1 ss h.2).2.2.2 k hk, lab_trip _ _ hg.tr (hg.ok _ (List.getElem_mem hk))]
end Go.Proofs.Ytnlaogneceanoaa
namespace Go.Proofs.Ytnlaogneceanoaa
set_option linter.unusedVariables false
set_option linter.unusedSimpArgs false
set_option linter.unusedSectionVars false
open Go.RowKit
def cntW (X Y : List ByteArray) : Nat := (X.zip Y).countP fun p => decide (p.1 ≠ p.2)
theorem cntW_self (X : List ByteArray) : cntW X X = 0 := by
  unfold cntW
  rw [List.countP_eq_zero]
  intro p hp
  have : p.1 = p.2 := by
    obtain ⟨i, hi, rfl⟩ := List.getElem_of_mem hp
    simp
  simp [this]
theorem cntW_le (X Y : List ByteArray) : cntW X Y ≤ X.length := by
  unfold cntW
  refine Nat.le_trans List.countP_le_length ?_
  rw [List.length_zip]
  omega
theorem cntW_app (A B C D : List ByteArray) (h : A.length = C.length) : cntW (A ++ B) (C ++ D) = cntW A C + cntW B D := by
  unfold cntW
  rw [List.zip_append h, List.countP_append]
theorem cntW_cons (x y : ByteArray) (X Y : List ByteArray) : cntW (x :: X) (y :: Y) = cntW X Y + if x = y then 0 else 1 := by
  unfold cntW
  rw [List.zip_cons_cons, List.countP_cons]
  by_cases h : x = y <;> simp [h]
theorem diff_cnt : ∀ (X Y : List ByteArray), X.length = Y.length → ((List.range X.length).filter fun i => decide (X.getD i ⟨#[]⟩ ≠ Y.getD i ⟨#[]⟩)).length = cntW X Y
  | [], [], _ => rfl
  | x :: X, y :: Y, h => by
    have ih := diff_cnt X Y (by simpa using h)
    rw [cntW_cons, ← ih, List.length_cons, List.range_succ_eq_map, List.filter_cons, List.filter_map]
    by_cases he : x = y
    · rw [if_neg (by simp [he]), if_pos he, List.length_map]
      rfl
    · rw [if_pos (by simpa using he), if_neg he, List.length_cons, List.length_map]
      rfl
theorem flat_cnt (F : Lab → List ByteArray) : ∀ (us ts : List Lab), us.length = ts.length → (∀ l ∈ us, (F l).length = 8) → (∀ l ∈ ts, (F l).length = 8) → cntW (ts.flatMap F) (us.flatMap F) ≤ 8 * cntD us ts
  | [], [], _, _, _ => Nat.zero_le _
  | u :: us, t :: ts, h, h1, h2 => by
    have ih := flat_cnt F us ts (by simpa using h) (fun l hl => h1 l (List.mem_cons_of_mem _ hl)) (fun l hl => h2 l (List.mem_cons_of_mem _ hl))
    have e1 := h1 u (List.mem_cons_self ..)
    have e2 := h2 t (List.mem_cons_self ..)
    rw [List.flatMap_cons, List.flatMap_cons, cntW_app _ _ _ _ (by rw [e1, e2]), cntD_cons]
    by_cases he : eqL u t = true
    · rw [if_pos he, (eqL_iff u t).1 he, cntW_self]
      omega
    · rw [if_neg he]
      have := cntW_le (F t) (F u)
      omega
theorem sec_flat (T : Tab) (hv : validT T = true) : secT T = cutS (headS T.name T.tracks) ++ T.labels.flatMap fun l => cutS (encS l T.tracks) := by
  have key : ∀ k, k ≤ T.labels.length → cutS (bodyS T k) = cutS (headS T.name T.tracks) ++ (T.labels.take k).flatMap fun l => cutS (encS l T.tracks) := by
    intro k
    induction k with
    | zero => intro _; rw [bodyS_zero]; simp
    | succ k ih =>
      intro hk
      rw [cut_next T hv k (by omega), ih (by omega), List.take_succ_eq_append_getElem (by omega), List.flatMap_append, List.append_assoc]
      simp
  unfold secT
  rw [if_pos hv, key _ (Nat.le_refl _), List.take_length]
/-- A change of labels turns at most eight sectors for each. -/
theorem diff_few (T U : Tab) (hT : GoodT T) (hU : GoodT U) (hn : U.name = T.name) (ht : U.tracks = T.tracks) (hl : U.labels.length = T.labels.length) : (diffT T U).length ≤ 8 * cntD U.labels T.labels := by
  have h1 := (validT_iff T).2 hT
  have h2 := (validT_iff U).2 hU
  have l1 := (sec_facts T h1 _ rfl).1
  have l2 := (sec_facts U h2 _ rfl).1
  unfold diffT
  rw [if_pos ⟨by omega, ht.symm⟩]
  unfold diffP
  rw [List.length_map, diff_cnt _ _ (by omega), sec_flat T h1, sec_flat U h2, hn, ht, cntW_app _ _ _ _ rfl, cntW_self, Nat.zero_add]
  refine flat_cnt (fun l => cutS (encS l T.tracks)) _ _ hl (fun l hm => ?_) (fun l hm => ?_)
  · rw [cutS_len, lab_1024 T.tracks hT.tr l (by have := hU.ok l hm; rwa [ht] at this)]
  · rw [cutS_len, lab_1024 T.tracks hT.tr l (hT.ok l hm)]
end Go.Proofs.Ytnlaogneceanoaa
namespace Go.Proofs.Ytnlaogneceanoaa
set_option linter.unusedVariables false
set_option linter.unusedSimpArgs false
set_option linter.unusedSectionVars false
open Go.RowKit
attribute [local go_sem ↓] Go.wp_at_zero Go.wp_at_succ
instance : DecidableEq Lab := fun a b => decidable_of_iff (eqL a b = true) (eqL_iff a b)
section
variable (A A2 : Option Addr) (c c2 : Nat) (xs ys : List LabE) (T U : Tab) (w : World)
end
end Go.Proofs.Ytnlaogneceanoaa
namespace Go.Proofs.Ytnlaogneceanoaa
set_option linter.unusedVariables false
set_option linter.unusedSimpArgs false
set_option linter.unusedSectionVars false
open Go.ChangeShapes Go.WideShapes Go.ChangeAt Go.RowKit Go.Deep
attribute [local go_sem ↓] Go.wp_at_zero Go.wp_at_succ
section
variable {H : Type} {enc : TypeId × Value → H} {w : World}
set_option maxRecDepth 100000 in
theorem open_refC {n : Nat} {cs : List Value} {y : DataW H × List MemPlace} (hlen : cs.length = 2) (h : DataW.trod enc Try.prog w 0 (fun _ => true) true n 37 cs = some y) :
    ∃ x : Int × Int, cs = [.int .i64 x.1, .int .i64 x.2] ∧ (-9223372036854775808 ≤ x.1 ∧ x.1 ≤ 9223372036854775807) ∧ (-9223372036854775808 ≤ x.2 ∧ x.2 ≤ 9223372036854775807) := by
  have hf := struct_fields Try.underlying37 (by kernel_rfl) h
  obtain ⟨v0, _, _, e0, f0⟩ := hf 0 _ rfl (by omega)
  obtain ⟨v1, _, _, e1, f1⟩ := hf 1 _ rfl (by omega)
  obtain ⟨n0, hn0, _, w0⟩ := DataW.trod_int Try.underlying3 f0
  obtain ⟨n1, hn1, _, w1⟩ := DataW.trod_int Try.underlying3 f1
  injection hn0 with hn0 _
  injection hn1 with hn1 _
  subst hn0; subst hn1
  refine ⟨(n0, n1), ?_, wf_i64 w0, wf_i64 w1⟩
  match cs, hlen with
  | [x0, x1], _ =>
    simp at e0 e1
    rw [e0, e1]
end
end Go.Proofs.Ytnlaogneceanoaa
namespace Go.Proofs.Ytnlaogneceanoaa
set_option linter.unusedVariables false
set_option linter.unusedSimpArgs false
set_option linter.unusedSectionVars false
open Go.ChangeShapes Go.WideShapes Go.ChangeAt Go.RowKit Go.Deep
attribute [local go_sem ↓] Go.wp_at_zero Go.wp_at_succ
structure Opr where
  kind : Nat
  id : Int
  unit : Int
  name : ByteArray
  note : ByteArray
  n : Int
  ext : List (Int × Int)
/-- What is known of a change that came in. -/
structure OprAt (w : World) (B : Option Addr) (o : Opr) : Prop where
  kind : o.kind < 256
  name : o.name.size ≤ 9223372036854775807
  note : o.note.size ≤ 9223372036854775807
  n0 : -9223372036854775808 ≤ o.n
  n1 : o.n ≤ 9223372036854775807
  runs : RunsAt w w.heap.size B o.ext
  xl : o.ext.length ≤ 9223372036854775807
theorem op_field {H : Type} {enc : TypeId × Value → H} {P : Program} {w : World} {fs : Array Field} {e n : Nat} {cs : List Value} {y : DataW H × List MemPlace} {base : Nat} {sp : Nat → Bool} {hd : Bool} (he : P.underlying e = some (.struct fs)) (h : DataW.trod enc P w base sp hd n e cs = some y) :
    ∀ (j : Nat) (f : Field), fs[j]? = some f → ∃ n' y', DataW.trod enc P w base sp hd n' f.type ((cs.drop f.offset).take (P.cellsOf f.type)) = some y' := by
  intro j f hj
  obtain ⟨ys, n', hn', hy, hlen, hyl, hf⟩ := DataW.trod_struct he h
  have hjf : j < fs.size := (Array.getElem?_eq_some_iff.1 hj).1
  exact ⟨_, _, (hf j f hj).trans (List.getElem?_eq_getElem (by omega))⟩
theorem op_u8 {n : Int} (h : (Lit.int .u8 n).wf = true) : 0 ≤ n ∧ n ≤ 255 := by
  simp only [Lit.wf, IntKind.min, IntKind.max, IntKind.signed, IntKind.bits] at h
  simp at h
  omega
section
variable {H : Type} {enc : TypeId × Value → H} {w : World}
set_option maxRecDepth 100000 in
theorem open_oprC {n : Nat} {cs : List Value} {y : DataW H × List MemPlace} (hlen : cs.length = 7) (h : DataW.trod enc Try.prog w 0 (fun _ => true) true n 52 cs = some y) :
    ∃ B d, ∃ o : Opr, cs = [.int .u8 (o.kind : Int), .int .i64 o.id, .int .i64 o.unit, .string o.name, .string o.note, .int .i64 o.n, .slice B o.ext.length d] ∧ OprAt w B o := by
  match cs, hlen with
  | [x0, x1, x2, x3, x4, x5, x6], _ =>
    have hf := op_field Try.underlying52 h
    obtain ⟨_, _, f0⟩ := hf 0 _ rfl
    obtain ⟨_, _, f1⟩ := hf 1 _ rfl
    obtain ⟨_, _, f2⟩ := hf 2 _ rfl
    obtain ⟨_, _, f3⟩ := hf 3 _ rfl
    obtain ⟨_, _, f4⟩ := hf 4 _ rfl
    obtain ⟨_, _, f5⟩ := hf 5 _ rfl
    simp only [List.getElem_toArray, List.getElem_cons_zero, List.getElem_cons_succ] at f0 f1 f2 f3 f4 f5
    rw [show Try.prog.cellsOf 5 = 1 from by kernel_rfl] at f0
    rw [show Try.prog.cellsOf 37 = 2 from by kernel_rfl] at f1
    rw [show Try.prog.cellsOf 9 = 1 from by kernel_rfl] at f2 f3
    rw [show Try.prog.cellsOf 3 = 1 from by kernel_rfl] at f4
    rw [show Try.prog.cellsOf 22 = 1 from by kernel_rfl] at f5
    simp only [List.drop_succ_cons, List.drop_zero, List.take_succ_cons, List.take_zero] at f0 f1 f2 f3 f4 f5
    obtain ⟨x, hx, -, -⟩ := open_refC (by rfl) f1
    obtain ⟨n0, hn0, _, w0⟩ := DataW.trod_int Try.underlying5 f0
    obtain ⟨n3, hn3, _, w3⟩ := DataW.trod_string Try.underlying9 f2
    obtain ⟨n4, hn4, _, w4⟩ := DataW.trod_string Try.underlying9 f3
    obtain ⟨n5, hn5, _, w5⟩ := DataW.trod_int Try.underlying3 f4
    obtain ⟨A, c, l, rfl, h1, h2, h3⟩ := open_runsF f5
    injection hx with hx1 hx2
    injection hx2 with hx2 _
    injection hn0 with hn0 _
    injection hn3 with hn3 _
    injection hn4 with hn4 _
    injection hn5 with hn5 _
    subst hx1; subst hx2; subst hn0; subst hn3; subst hn4; subst hn5
    have b0 := op_u8 w0
    have b5 := wf_i64 w5
    unfold maxLen at w3 w4
    refine ⟨A, c, ⟨n0.toNat, x.1, x.2, n3, n4, n5, l⟩, ?_, ⟨by show n0.toNat < 256; omega, by simpa using w3, by simpa using w4, b5.1, b5.2, h3, Nat.le_trans h1 h2⟩⟩
    simp only [Int.toNat_of_nonneg b0.1]
end
def smallO (o : Opr) : Bool := decide (o.name.size ≤ 100) && (decide (o.note.size ≤ 500) && decide (o.ext.length ≤ 20))
end Go.Proofs.Ytnlaogneceanoaa
namespace Go.Proofs.Ytnlaogneceanoaa
set_option linter.unusedVariables false
set_option linter.unusedSimpArgs false
set_option linter.unusedSectionVars false
open Go.ChangeShapes Go.WideShapes Go.ChangeAt Go.RowKit Go.Deep
attribute [local go_sem ↓] Go.wp_at_zero Go.wp_at_succ
/-- A change in memory, with its extents' slice. -/
structure OprE where
  B : Option Addr
  d : Nat
  o : Opr
instance : Inhabited OprE := ⟨⟨none, 0, ⟨0, 0, 0, ⟨#[]⟩, ⟨#[]⟩, 0, []⟩⟩⟩
def oprC (x : OprE) : List Value := [.int .u8 (x.o.kind : Int), .int .i64 x.o.id, .int .i64 x.o.unit, .string x.o.name, .string x.o.note, .int .i64 x.o.n, .slice x.B x.o.ext.length x.d]
structure OprsAt (w : World) (A : Option Addr) (xs : List OprE) : Prop where
  op : ∀ x ∈ xs, OprAt w x.B x.o
  rows : ListAt w w.heap.size 7 A (xs.map oprC)
theorem OprAt.hold {w w' : World} {B : Option Addr} {o : Opr} (h : OprAt w B o) (hg : Grew w w') : OprAt w' B o := ⟨h.kind, h.name, h.note, h.n0, h.n1, h.runs.hold hg, h.xl⟩
theorem OprsAt.hold {w w' : World} {A : Option Addr} {xs : List OprE} (h : OprsAt w A xs) (hg : Grew w w') : OprsAt w' A xs :=
  ⟨fun x hx => (h.op x hx).hold hg, (h.rows.keep (Nat.le_refl _) hg).mono hg.size⟩
theorem OprsAt.at_ {w : World} {A : Option Addr} {xs : List OprE} (h : OprsAt w A xs) {k : Nat} (hk : k < xs.length) : ∃ b off, A = some ⟨b, off, none⟩ ∧ b < w.heap.size ∧ OprAt w xs[k].B xs[k].o ∧ ∀ i v, (oprC xs[k])[i]? = some v → w.cell? ⟨b, off + k * 7 + i, none⟩ = some v := by
  obtain ⟨b, off, e, hb, hc⟩ := h.rows (by simp; omega)
  exact ⟨b, off, e, hb, h.op _ (List.getElem_mem hk), hc k (oprC xs[k]) (by rw [List.getElem?_map, List.getElem?_eq_getElem hk]; rfl)⟩
section
variable {H : Type} {enc : TypeId × Value → H} {w : World}
set_option maxRecDepth 100000 in
theorem open_oprs {r : Reach} {b0 : Nat} {v : Value} {d : DataW H} {ps : List MemPlace} (hv : Value.okWide Try.prog w r b0 48 v) (hd : DataW.Trod enc Try.prog w 0 (fun _ => true) true 48 v d ps) :
    ∃ A c, ∃ l : List OprE, v = .slice A l.length c ∧ l.length ≤ c ∧ c ≤ 9223372036854775807 ∧ OprsAt w A l := by
  obtain ⟨A, c, l, rfl, h1, h2, h3, h4⟩ := open_list (α := OprE) (sz := 7) Try.underlying48 (by kernel_rfl) (by omega) oprC (fun x => OprAt w x.B x.o) (fun n cs y hlen h => by
    obtain ⟨B, d, o, hcs, ho⟩ := open_oprC hlen h
    exact ⟨⟨B, d, o⟩, ho, hcs⟩) hv hd
  exact ⟨A, c, l, rfl, h1, h2, h3, h4⟩
end
def smallL (xs : List OprE) (n : Nat) : Bool := xs.all (fun x => smallO x.o) && decide (xs.length ≤ n)
theorem smallL_facts (xs : List OprE) (n : Nat) (h : smallL xs n = true) : xs.length ≤ n ∧ ∀ x ∈ xs, x.o.ext.length ≤ 20 := by
  unfold smallL at h
  rw [Bool.and_eq_true, List.all_eq_true] at h
  refine ⟨of_decide_eq_true h.2, fun x hx => ?_⟩
  have := h.1 x hx
  unfold smallO at this
  simp only [Bool.and_eq_true, decide_eq_true_eq] at this
  exact this.2.2
set_option maxRecDepth 100000 in
set_option maxHeartbeats 4000000 in
theorem small_any (A : Option Addr) (c : Nat) (xs : List OprE) (n : Nat) (hn : n ≤ 1000) (w : World) (hx : OprsAt w A xs) (hl : xs.length ≤ 9223372036854775807) :
    Calls Try.prog 20 #[.slice A xs.length c, .int .i64 (n : Int)] w fun e w' => e = .returned (.bool (smallL xs n)) ∧ w = w' := by
  have HX := Lib.hid hx
  have HE := Lib.hid (show smallL xs n = (xs.all (fun x => smallO x.o) && decide (xs.length ≤ n)) from rfl)
  generalize smallL xs n = bb at *
  clear hx
  go_enter Try.func20, Try.ntmps20
  go_wp2_with fail
  go_loopg [5] xs.length (fun gk i wr => w = wr ∧ ∃ k : Nat, k ≤ xs.length ∧ gk = xs.length - k ∧ i = .int .i64 k ∧ ∀ j (hj : j < xs.length), j < k → smallO xs[j].o = true)
  case atStart => exact ⟨rfl, 0, by omega, by omega, rfl, fun j hj h => by omega⟩
  case round =>
    obtain ⟨rfl, k, hk, hgk, rfl, hall⟩ := hrel
    have HGK := Lib.hid hgk
    have HA := Lib.hid hall
    clear hgk hall
    by_cases hlt : k < xs.length
    · obtain ⟨b, off, rfl, hbl, hop, hc⟩ := HX.out.at_ hlt
      have x3 := hc 3 _ rfl
      have x4 := hc 4 _ rfl
      have x6 := hc 6 _ rfl
      have HBAD := Lib.hid (show smallO xs[k].o = false → bb = false from fun h => by
        rw [HE.out, show xs.all (fun x => smallO x.o) = false from by
          rw [List.all_eq_false]
          exact ⟨xs[k], List.getElem_mem hlt, by rw [h]; simp⟩]
        rfl)
      have hs1 := hop.name
      have hs2 := hop.note
      have hs3 := hop.xl
      have HEQ := Lib.hid (show smallO xs[k].o = (decide (xs[k].o.name.size ≤ 100) && (decide (xs[k].o.note.size ≤ 500) && decide (xs[k].o.ext.length ≤ 20))) from rfl)
      clear hc hop
      obtain ⟨⟨B, d, o⟩, ho⟩ : ∃ x, xs[k] = x := ⟨_, rfl⟩
      have HO := Lib.hid ho
      rw [ho] at x3 x4 x6 hs1 hs2 hs3 HBAD HEQ
      simp only [] at x3 x4 x6 hs1 hs2 hs3 HBAD HEQ
      clear ho
      by_cases s1 : o.name.size ≤ 100
      rotate_left
      · have s1i : (100 : Int) < (o.name.size : Int) := by omega
        have HF := Lib.hid (HBAD.out (HEQ.out.trans (by rw [decide_eq_false s1]; rfl)))
        go_wp2_with fail
        go_ret
        exact ⟨ret_bool (by rw [HF.out]), rfl⟩
      have s1i : ¬ (100 : Int) < (o.name.size : Int) := by omega
      by_cases s2 : o.note.size ≤ 500
      rotate_left
      · have s2i : (500 : Int) < (o.note.size : Int) := by omega
        have HF := Lib.hid (HBAD.out (HEQ.out.trans (by rw [decide_eq_true s1, decide_eq_false s2]; rfl)))
        go_wp2_with fail
        go_ret
        exact ⟨ret_bool (by rw [HF.out]), rfl⟩
      have s2i : ¬ (500 : Int) < (o.note.size : Int) := by omega
      by_cases s3 : o.ext.length ≤ 20
      rotate_left
      · have s3i : (20 : Int) < (o.ext.length : Int) := by omega
        have HF := Lib.hid (HBAD.out (HEQ.out.trans (by rw [decide_eq_true s1, decide_eq_true s2, decide_eq_false s3]; rfl)))
        go_wp2_with fail
        go_ret
        exact ⟨ret_bool (by rw [HF.out]), rfl⟩
      have s3i : ¬ (20 : Int) < (o.ext.length : Int) := by omega
      have HF := Lib.hid (HEQ.out.trans (by rw [decide_eq_true s1, decide_eq_true s2, decide_eq_true s3]; rfl) : smallO o = true)
      go_wp2_with fail
      go_roundg (xs.length - (k + 1))
      case measure => rw [HGK.out]; omega
      case rel => exact ⟨rfl, k + 1, by omega, by omega, by go_num, fun j hj h1 => (by
        by_cases hjk : j = k
        · subst hjk; rw [HO.out]; exact HF.out
        · exact HA.out j hj (by omega))⟩
    · have hkn : k = xs.length := by omega
      subst hkn
      have HF := Lib.hid (show bb = decide (xs.length ≤ n) from by
        rw [HE.out, show xs.all (fun x => smallO x.o) = true from by
          rw [List.all_eq_true]
          intro x hx
          obtain ⟨j, hj, rfl⟩ := List.getElem_of_mem hx
          exact HA.out j hj hj]
        rfl)
      go_wp2_with fail
      go_ret
      exact ⟨ret_bool (by rw [HF.out]; first | done | (rw [decide_eq_decide]; omega)), rfl⟩
end Go.Proofs.Ytnlaogneceanoaa
namespace Go.Proofs.Ytnlaogneceanoaa
set_option linter.unusedVariables false
set_option linter.unusedSimpArgs false
set_option linter.unusedSectionVars false
open Go.RowKit
attribute [local go_sem ↓] Go.wp_at_zero Go.wp_at_succ
section
variable (A : Option Addr) (c : Nat) (xs : List LabE) (T : Tab) (w : World)
set_option maxRecDepth 100000 in
set_option maxHeartbeats 8000000 in
theorem sectors_tab (h : TabAt w A c xs T) (hs : SmallT T) :
    Calls Try.prog 27 #[.agg #[.string T.name, .int .i64 T.tracks, .slice A T.labels.length c]] w fun e w' => ∃ v, e = .returned v ∧ OwnL w' w.heap.size 9 1 v ((secT T).map strC) ∧ Grew w w' := by
  have hg0 := (Grew.refl w).alloc (.cells #[.string T.name, .int .i64 T.tracks, .slice A T.labels.length c] 34)
  have HB0 := Lib.hid (Blk.new w 34 #[.string T.name, .int .i64 T.tracks, .slice A T.labels.length c] rfl)
  have HV := Lib.hid (valid_tab A c xs T _ (h.hold hg0) hs _ rfl)
  have HTB := Lib.hid h
  have HS := Lib.hid hs
  have HG0 := Lib.hid hg0
  have hnm := h.name
  have hlen := hs.len
  have HT01 := Lib.hid (show -9223372036854775808 ≤ T.tracks ∧ T.tracks ≤ 9223372036854775807 from ⟨h.tr0, h.tr1⟩)
  clear h hs hg0
  cases hv : validT T with
  | false =>
    have HE := Lib.hid (show secT T = [] from by unfold secT; rw [if_neg (by rw [hv]; simp)])
    have HVF := Lib.hid hv
    clear hv
    go_enter Try.func27, Try.ntmps27
    go_wp2_with fail
    refine HV.out.mono ?_
    rintro e w1 ⟨rfl, g1⟩
    rw [HVF.out]
    go_wp2_with fail
    go_ret
    exact ⟨_, rfl, by rw [HE.out]; exact OwnL.nil _ _ _ _, HG0.out.trans g1⟩
  | true =>
    have HE := Lib.hid (show secT T = cutS (bodyS T T.labels.length) from by unfold secT; rw [if_pos hv])
    have HVF := Lib.hid hv
    have HBN := Lib.hid (fun k hk => bodyS_next T k hk)
    have HBS := Lib.hid (fun k hk => body_size T hv k hk)
    have HL1 := Lib.hid (fun k (hk : k < T.labels.length) => lab_1024 T.tracks ((validT_iff T).1 hv).tr T.labels[k] (((validT_iff T).1 hv).ok _ (List.getElem_mem hk)))
    have HB00 := Lib.hid (bodyS_zero T)
    clear hv
    go_enter Try.func27, Try.ntmps27
    go_wp2_with fail
    refine HV.out.mono ?_
    rintro e w1 ⟨rfl, g1⟩
    rw [HVF.out]
    have HB1 := Lib.hid (HB0.out.grew g1)
    have HG1 := Lib.hid (HG0.out.trans g1)
    have x0 := HB1.out.cell 0
    have x1 := HB1.out.cell 1
    have hbl := HB1.out.lt
    clear g1
    go_wp2_with fail
    refine (encHead_any T.name T.tracks _ hnm).mono ?_
    rintro e w2 ⟨rfl, g2⟩
    have HB2 := Lib.hid (HB1.out.grew g2)
    have HG2 := Lib.hid (HG1.out.trans g2)
    clear x0 x1 hbl g2
    have x2 := HB2.out.cell 2
    have hbl := HB2.out.lt
    go_wp2_with fail
    go_loopg [3, 18] T.labels.length (fun gk sv i wr => ∃ k : Nat, k ≤ T.labels.length ∧ gk = T.labels.length - k ∧ i = .int .i64 k ∧ sv = .string (bodyS T k) ∧ Blk wr w.heap.size 34 #[.string T.name, .int .i64 T.tracks, .slice A T.labels.length c] ∧ Grew w wr)
    case atStart => exact ⟨0, by omega, by omega, rfl, by rw [HB00.out], HB2.out, HG2.out⟩
    case round =>
      obtain ⟨k, hk, hgk, rfl, rfl, hb, hg⟩ := hrel
      have HGK := Lib.hid hgk
      have HB := Lib.hid hb
      have HG := Lib.hid hg
      have hbz := HBS.out k hk
      clear hgk x2 hbl
      by_cases hlt : k < T.labels.length
      · obtain ⟨b, off, B, d, l, rfl, hbl5, hxk, hv, hla, c0, c1, c2, c3, c4⟩ := (HTB.out.hold hg).at_ hlt
        have hle := HS.out.ext T.labels[k] (List.getElem_mem hlt)
        rw [hv] at hle
        have hn := HBN.out k hlt
        rw [hv] at hn
        have HN := Lib.hid hn
        have hz := HL1.out k hlt
        rw [hv] at hz
        have hz2 : (encS l T.tracks).size ≤ 1024 := by omega
        have hb2 : (bodyS T k).size ≤ 2000000 := by omega
        have gal : Grew wr (wr.alloc (.cells #[.int .i64 l.id, .int .i64 l.unit, .string l.name, .string l.note, .slice B l.ext.length d] 24)) := (Grew.refl wr).alloc _
        have HLA := Lib.hid (hla.hold gal)
        have HNL := Lib.hid (Blk.new wr 24 #[.int .i64 l.id, .int .i64 l.unit, .string l.name, .string l.note, .slice B l.ext.length d] rfl)
        have HBA := Lib.hid (hb.grew gal)
        have HGA := Lib.hid (hg.trans gal)
        have x1 := hb.cell 1
        have hbl0 := hb.lt
        clear hn hz hbz hv hxk hla hb hg gal
        go_wp2_with fail
        refine (encode_lab B d l T.tracks _ HLA.out (by omega) HT01.out.1 HT01.out.2).mono ?_
        rintro e w4 ⟨rfl, g4⟩
        have HB4 := Lib.hid (HBA.out.grew g4)
        have HG4 := Lib.hid (HGA.out.trans g4)
        clear c0 c1 c2 c3 c4 x1 g4
        go_wp2_with fail
        go_roundg (T.labels.length - (k + 1))
        case measure => rw [HGK.out]; omega
        case rel => exact ⟨k + 1, by omega, by omega, by go_num, by rw [HN.out], HB4.out, HG4.out⟩
      · have hkn : k = T.labels.length := by omega
        subst hkn
        obtain ⟨s, hs⟩ : ∃ s, bodyS T T.labels.length = s := ⟨_, rfl⟩
        rw [hs] at hbz ⊢
        have HSE := Lib.hid (HE.out.trans (by rw [hs]))
        have hcl := cutS_len s
        have hsz : s.size = 1024 * (T.labels.length + 1) := hbz
        have HSZ := Lib.hid hsz
        have hR0 := restS_zero s
        have HR0 := Lib.hid hR0
        clear hs hbz hb hg hR0 hsz
        go_wp2_with fail
        go_loopg [3, 6] (s.size / 128) (fun gk av ov wr' => ∃ k : Nat, k ≤ s.size / 128 ∧ gk = s.size / 128 - k ∧ av = .string (restS s k) ∧ OwnL wr' w.heap.size 9 1 ov (((cutS s).take k).map strC) ∧ Grew w wr')
        case atStart => exact ⟨0, by omega, by omega, by rw [HR0.out], OwnL.nil _ _ _ _, HG.out⟩
        case round =>
          obtain ⟨k, hk, hgk, rfl, hown, hg⟩ := hrel
          have HGK := Lib.hid hgk
          have hgs := hg.size
          clear hgk
          have hrs := restS_size s k (by omega)
          have hcz := HSZ.out
          by_cases hlt : k < s.size / 128
          · have hne : (restS s k).toList.isEmpty = false := by
              cases hq : (restS s k).toList with
              | nil =>
                have h9 : restS s k = ⟨#[]⟩ := bytes_eq (by rw [ByteArray.toList_eq] at hq; simpa using hq)
                have h8 := congrArg ByteArray.size h9
                rw [hrs] at h8
                have h6 : s.size - 128 * k = 0 := h8
                omega
              | cons a l => rfl
            have hr1 : 128 ≤ (restS s k).size := by omega
            have HT := Lib.hid (cutS_take s k (by omega))
            have HH := Lib.hid (restS_head s k (by omega))
            have HN := Lib.hid (restS_next s k (by omega))
            have htl : ((cutS s).take k).length ≤ 100000 := by rw [List.length_take]; omega
            clear hrs hcl hcz
            go_wp2_with (at_builtin; refine wpList_push rfl _ _ 62 rfl w.heap.size 9 1 16 _ Try.underlying62 info_str rfl (by decide) _ _ (((cutS s).take k).map strC) (strC ((restS s k).extract 0 128)) (by rfl) rfl rfl hown (by first | rfl | (simp; done)) rfl rfl (by rw [List.length_map]; omega) (by rw [List.length_map]; omega) hgs ?_; intro v' w5 hown5 hgr hbk hsz5)
            go_roundg (s.size / 128 - (k + 1))
            case measure => rw [HGK.out]; omega
            case rel => exact ⟨k + 1, by omega, by omega, by rw [← HN.out], by rw [HT.out, List.map_append, ← HH.out]; exact hown5, hgr _ hg (Nat.le_refl _)⟩
          · have hkn : 128 * k = s.size := by omega
            have he : restS s k = ⟨#[]⟩ := by
              apply ByteArray.ext
              apply Array.eq_empty_of_size_eq_zero
              show (restS s k).size = 0
              omega
            have HF := Lib.hid (show (cutS s).take k = cutS s from List.take_of_length_le (by rw [hcl]; omega))
            have HO := Lib.hid hown
            have HG9 := Lib.hid hg
            rw [he]
            clear hkn he hown hg hrs hcl hcz
            go_wp2_with fail
            go_ret
            exact ⟨_, rfl, by have := HO.out; rw [HF.out] at this; rw [HSE.out]; exact this, HG9.out⟩
end
end Go.Proofs.Ytnlaogneceanoaa
namespace Go.Proofs.Ytnlaogneceanoaa
set_option linter.unusedVariables false
set_option linter.unusedSimpArgs false
set_option linter.unusedSectionVars false
open Go.RowKit
attribute [local go_sem ↓] Go.wp_at_zero Go.wp_at_succ
theorem diffT_nil0 (T U : Tab) (h : (secT T).length = 0 ∨ (secT U).length = 0) : diffT T U = [] := by
  unfold diffT
  split
  · rename_i hc
    have h0 : (secT T).length = 0 := by omega
    rw [h0]; rfl
  · rfl
theorem diffT_nil1 (T U : Tab) (h : ¬ T.tracks = U.tracks) : diffT T U = [] := by
  unfold diffT
  rw [if_neg (fun hc => h hc.2)]
theorem diffT_full (T U : Tab) (h1 : (secT T).length ≠ 0) (h2 : (secT U).length ≠ 0) (ht : T.tracks = U.tracks) : diffT T U = diffP (secT T) (secT U) (secT U).length := by
  have hl := sec_same T U h1 h2 ht
  unfold diffT
  rw [if_pos ⟨hl, ht⟩, hl]
section
variable (A A2 : Option Addr) (c c2 : Nat) (xs ys : List LabE) (T U : Tab) (w : World)
set_option maxRecDepth 100000 in
set_option maxHeartbeats 8000000 in
theorem changes_tab (h : TabAt w A c xs T) (hs : SmallT T) (h2 : TabAt w A2 c2 ys U) (hs2 : SmallT U) :
    Calls Try.prog 26 #[.agg #[.string T.name, .int .i64 T.tracks, .slice A T.labels.length c], .agg #[.string U.name, .int .i64 U.tracks, .slice A2 U.labels.length c2]] w fun e w' => ∃ v, e = .returned v ∧ OwnL w' w.heap.size 67 2 v ((diffT T U).map wrC) ∧ Grew w w' := by
  have hg0 := ((Grew.refl w).alloc (.cells #[.string T.name, .int .i64 T.tracks, .slice A T.labels.length c] 34)).alloc (.cells #[.string U.name, .int .i64 U.tracks, .slice A2 U.labels.length c2] 34)
  have hb0 := (Blk.new w 34 #[.string T.name, .int .i64 T.tracks, .slice A T.labels.length c] rfl).alloc (.cells #[.string U.name, .int .i64 U.tracks, .slice A2 U.labels.length c2] 34)
  have hb1 := Blk.new (w.alloc (.cells #[.string T.name, .int .i64 T.tracks, .slice A T.labels.length c] 34)) 34 #[.string U.name, .int .i64 U.tracks, .slice A2 U.labels.length c2] (n := w.heap.size + 1) (by simp)
  have HB0 := Lib.hid hb0
  have HB1 := Lib.hid hb1
  have HT := Lib.hid h
  have HU := Lib.hid h2
  have HS := Lib.hid hs
  have HS2 := Lib.hid hs2
  have HG0 := Lib.hid hg0
  have hst := sec_short T hs.len
  have hsu := sec_short U hs2.len
  have HSG := Lib.hid (show ∀ w1 : World, Grew ((w.alloc (.cells #[.string T.name, .int .i64 T.tracks, .slice A T.labels.length c] 34)).alloc (.cells #[.string U.name, .int .i64 U.tracks, .slice A2 U.labels.length c2] 34)) w1 → (fun w' : World => w'.cell? ⟨w.heap.size, 0, none⟩ = some (.string T.name) ∧ w'.cell? ⟨w.heap.size, 1, none⟩ = some (.int .i64 T.tracks) ∧ w'.cell? ⟨w.heap.size, 2, none⟩ = some (.slice A T.labels.length c) ∧ w'.cell? ⟨w.heap.size + 1, 0, none⟩ = some (.string U.name) ∧ w'.cell? ⟨w.heap.size + 1, 1, none⟩ = some (.int .i64 U.tracks) ∧ w'.cell? ⟨w.heap.size + 1, 2, none⟩ = some (.slice A2 U.labels.length c2)) w1 from fun w1 g => ⟨(hb0.grew g).cell 0, (hb0.grew g).cell 1, (hb0.grew g).cell 2, (hb1.grew g).cell 0, (hb1.grew g).cell 1, (hb1.grew g).cell 2⟩)
  have hS := HSG.out _ (Grew.refl ((w.alloc (.cells #[.string T.name, .int .i64 T.tracks, .slice A T.labels.length c] 34)).alloc (.cells #[.string U.name, .int .i64 U.tracks, .slice A2 U.labels.length c2] 34))).drew
  have HGD := Lib.hid ((Grew.refl ((w.alloc (.cells #[.string T.name, .int .i64 T.tracks, .slice A T.labels.length c] 34)).alloc (.cells #[.string U.name, .int .i64 U.tracks, .slice A2 U.labels.length c2] 34))).drew)
  clear h hs h2 hs2 hb0 hb1 hg0
  go_enter Try.func26, Try.ntmps26
  go_wp2_with fail
  obtain ⟨w0, hw0⟩ : ∃ w0, w0 = (w.alloc (.cells #[.string T.name, .int .i64 T.tracks, .slice A T.labels.length c] 34)).alloc (.cells #[.string U.name, .int .i64 U.tracks, .slice A2 U.labels.length c2] 34) := ⟨_, rfl⟩
  have hw0s : w0.heap.size = w.heap.size + 2 := by rw [hw0]; simp
  rw [← hw0] at HB0 HB1 HG0 HSG HGD hS ⊢
  clear hw0
  refine wp_region_R [] (fun w' : World => w'.cell? ⟨w.heap.size, 0, none⟩ = some (.string T.name) ∧ w'.cell? ⟨w.heap.size, 1, none⟩ = some (.int .i64 T.tracks) ∧ w'.cell? ⟨w.heap.size, 2, none⟩ = some (.slice A T.labels.length c) ∧ w'.cell? ⟨w.heap.size + 1, 0, none⟩ = some (.string U.name) ∧ w'.cell? ⟨w.heap.size + 1, 1, none⟩ = some (.int .i64 U.tracks) ∧ w'.cell? ⟨w.heap.size + 1, 2, none⟩ = some (.slice A2 U.labels.length c2)) (by kernel_rfl) ?_
  refine wpAnyR_take (i := 0) (v := ?_) [1, 3, 4, 5] (some 9) rfl rfl (by kernel_rfl) (by kernel_rfl) (by kernel_rfl) (by kernel_rfl) (by kernel_rfl) (by kernel_rfl) (by kernel_rfl) (fun _ _ _ h => h) (Or.inl ⟨by rfl, ?_⟩) hS ?_
  rotate_left
  focus (intro wS hSw; (try dsimp only at hSw); go_simp; (try with_reducible rfl); (try (first | (rw [if_pos (by omega)]; (try go_simp); (try with_reducible rfl)) | (rw [if_neg (by omega)]; (try go_simp); (try with_reducible rfl)))))
  try simp only [Act.put, zA, zB, zC]
  refine wpAnyR_take (i := 2) (v := ?_) [3, 4, 5] (some 11) rfl rfl (by kernel_rfl) (by kernel_rfl) (by kernel_rfl) (by kernel_rfl) (by kernel_rfl) (by kernel_rfl) (by kernel_rfl) (fun _ _ _ h => h) (Or.inl ⟨by rfl, ?_⟩) hS ?_
  rotate_left
  focus (intro wS hSw; (try dsimp only at hSw); go_simp; (try with_reducible rfl); (try (first | (rw [if_pos (by omega)]; (try go_simp); (try with_reducible rfl)) | (rw [if_neg (by omega)]; (try go_simp); (try with_reducible rfl)))))
  try simp only [Act.put, zA, zB, zC]
  refine wpAnyR_n1 (i := 1) rfl (by kernel_rfl) ?_
  intro K' hK
  rw [if_pos (by rfl)]
  simp only [List.getElem_toArray, List.getElem_cons_succ, List.getElem_cons_zero]
  go_wp2_with fail
  refine (sectors_tab A c xs T _ (HT.out.hold (HG0.out.trans HGD.out)) HS.out).mono ?_
  rintro e w3 ⟨v3, rfl, ho3, g3⟩
  have G3 := HGD.out.trans g3
  obtain ⟨A3, c3, rfl, hl3, hc3, hr3⟩ := ho3.listAt
  go_wp2_with fail
  refine hK.out _ _ (.inr (fun _ => HSG.out _ G3)) ?_
  clear hK hS
  have hS := HSG.out _ G3
  refine wpAnyR_n1 (i := 3) rfl (by kernel_rfl) ?_
  intro K' hK
  rw [if_pos (by rfl)]
  simp only [List.getElem_toArray, List.getElem_cons_succ, List.getElem_cons_zero]
  go_wp2_with fail
  refine (sectors_tab A2 c2 ys U _ (HU.out.hold (HG0.out.trans G3)) HS2.out).mono ?_
  rintro e w4 ⟨v4, rfl, ho4, g4⟩
  have G4 := G3.trans g4
  obtain ⟨A4, c4, rfl, hl4, hc4, hr4⟩ := ho4.listAt
  go_wp2_with fail
  refine hK.out _ _ (.inr (fun _ => HSG.out _ G4)) ?_
  clear hK hS
  have hS := HSG.out _ G4
  refine wpAnyR_takeQ (i := 4) (v := ?_) (some 5) rfl rfl (by kernel_rfl) (by kernel_rfl) (by kernel_rfl) (by kernel_rfl) (fun _ _ _ h => h) (Or.inl ⟨by rfl, ?_⟩) ?_
  rotate_left
  focus (intro wS hSw; (try dsimp only at hSw); go_simp; (try with_reducible rfl); (try (first | (rw [if_pos (by omega)]; (try go_simp); (try with_reducible rfl)) | (rw [if_neg (by omega)]; (try go_simp); (try with_reducible rfl)))))
  try simp only [Act.put, zA, zB, zC]
  refine wpAnyR_takeQ (i := 5) (v := ?_) (some 6) rfl rfl (by kernel_rfl) (by kernel_rfl) (by kernel_rfl) (by kernel_rfl) (fun _ _ _ h => h) (Or.inl ⟨by rfl, ?_⟩) ?_
  rotate_left
  focus (intro wS hSw; (try dsimp only at hSw); go_simp; (try with_reducible rfl); (try (first | (rw [if_pos (by omega)]; (try go_simp); (try with_reducible rfl)) | (rw [if_neg (by omega)]; (try go_simp); (try with_reducible rfl)))))
  try simp only [Act.put, zA, zB, zC]
  refine wpAnyR_done (by kernel_rfl) ?_ _
  have HB2 := Lib.hid (HB0.out.grew G4)
  have HB3 := Lib.hid (HB1.out.grew G4)
  have HG4 := Lib.hid (HG0.out.trans G4)
  have HL3 := Lib.hid (hr3.keep (Nat.le_refl _) g4)
  have HL4 := Lib.hid hr4
  have hz3 : w3.heap.size ≤ w4.heap.size := g4.size
  have x1 := HB2.out.cell 1
  have u1 := HB3.out.cell 1
  have hbl := HB2.out.lt
  have hcl := HB3.out.lt
  clear hS ho3 ho4 hr3 hr4 g3 g4 G3 G4 hl3 hl4 hc3 hc4 HSG HGD
  have hn3 : (((secT T).map strC).length) = (secT T).length := List.length_map ..
  by_cases h0 : (secT T).length = 0
  · have hb : (((secT T).length : Int) == 0) = true := by rw [beq_iff_eq]; omega
    have HD := Lib.hid (diffT_nil0 T U (.inl h0))
    clear h0
    go_wp2_with fail
    go_ret
    exact ⟨_, rfl, by rw [HD.out]; exact OwnL.nil _ _ _ _, HG4.out⟩
  have hb : (((secT T).length : Int) == 0) = false := by rw [beq_eq_false_iff_ne]; omega
  by_cases h1 : (secT U).length = 0
  · have hc : (((secT U).length : Int) == 0) = true := by rw [beq_iff_eq]; omega
    have HD := Lib.hid (diffT_nil0 T U (.inr h1))
    clear h0 h1
    go_wp2_with fail
    go_ret
    exact ⟨_, rfl, by rw [HD.out]; exact OwnL.nil _ _ _ _, HG4.out⟩
  have hc : (((secT U).length : Int) == 0) = false := by rw [beq_eq_false_iff_ne]; omega
  by_cases ht : T.tracks = U.tracks
  rotate_left
  · have hd : (T.tracks != U.tracks) = true := by rw [bne_iff_ne]; exact ht
    have HD := Lib.hid (diffT_nil1 T U ht)
    clear h0 h1 ht
    go_wp2_with fail
    go_ret
    exact ⟨_, rfl, by rw [HD.out]; exact OwnL.nil _ _ _ _, HG4.out⟩
  have hd : (T.tracks != U.tracks) = false := by rw [bne_eq_false_iff_eq]; exact ht
  have HD := Lib.hid (diffT_full T U h0 h1 ht)
  have hsl := sec_same T U h0 h1 ht
  have HNX := Lib.hid (fun k (h1 : k < (secT T).length) (h2 : k < (secT U).length) => diffP_eq (secT T) (secT U) k h1 h2)
  have HNY := Lib.hid (fun k (h1 : k < (secT T).length) (h2 : k < (secT U).length) => diffP_ne (secT T) (secT U) k h1 h2)
  have HSL := Lib.hid hsl
  clear h0 h1 ht x1 u1 hsl
  have x1 := HB2.out.cell 1
  have u1 := HB3.out.cell 1
  generalize secT T = X at *
  generalize secT U = Y at *
  go_wp2_with fail
  go_loopg [7, 30] Y.length (fun gk ov i wr => ∃ k : Nat, k ≤ Y.length ∧ gk = Y.length - k ∧ i = .int .i64 k ∧ OwnL wr w4.heap.size 67 2 ov ((diffP X Y k).map wrC) ∧ Grew w4 wr)
  case atStart => exact ⟨0, by omega, by omega, rfl, OwnL.nil _ _ _ _, Grew.refl _⟩
  case round =>
    obtain ⟨k, hk, hgk, rfl, hown, hg⟩ := hrel
    have HGK := Lib.hid hgk
    have HG := Lib.hid hg
    have hgs := hg.size
    clear hgk hb hc hd x1 u1
    by_cases hlt : k < Y.length
    · have hlx : k < X.length := by have := HSL.out; omega
      obtain ⟨b1, o1, rfl, hb1, hc1⟩ := HL3.out (by rw [List.length_map]; omega)
      obtain ⟨b2, o2, rfl, hb2, hc2⟩ := HL4.out (by rw [List.length_map]; omega)
      obtain ⟨x, hx⟩ : ∃ x, X[k] = x := ⟨_, rfl⟩
      obtain ⟨y, hy⟩ : ∃ y, Y[k] = y := ⟨_, rfl⟩
      have hb1 : b1 < w4.heap.size := by omega
      have q0 : wr.cell? ⟨b1, o1 + k, none⟩ = some (.string x) := by
        rw [hg.cellEq _ _ hb1]
        have := hc1 k (strC x) (by rw [List.getElem?_map, List.getElem?_eq_getElem hlx, hx]; rfl) 0 _ rfl
        simpa using this
      have p0 : wr.cell? ⟨b2, o2 + k, none⟩ = some (.string y) := by
        rw [hg.cellEq _ _ hb2]
        have := hc2 k (strC y) (by rw [List.getElem?_map, List.getElem?_eq_getElem hlt, hy]; rfl) 0 _ rfl
        simpa using this
      have hb1r := Nat.lt_of_lt_of_le hb1 hgs
      have hb2r := Nat.lt_of_lt_of_le hb2 hgs
      have hS : (fun w' : World => w'.cell? ⟨b1, o1 + k, none⟩ = some (.string x) ∧ w'.cell? ⟨b2, o2 + k, none⟩ = some (.string y)) wr.drew := ⟨q0, p0⟩
      have HOWN := Lib.hid hown
      have hdl := diffP_len X Y k
      clear hc1 hc2 hg hown
      by_cases he : x = y
      · have HQ := Lib.hid (show (x.toList == y.toList) = true from by rw [he, beq_iff_eq])
        have HN := Lib.hid (show diffP X Y (k + 1) = diffP X Y k from HNX.out k hlx hlt (by rw [hx, hy, he]))
        clear he hx hy
        go_wp2_with fail
        refine wp_region_R [] (fun w' : World => w'.cell? ⟨b1, o1 + k, none⟩ = some (.string x) ∧ w'.cell? ⟨b2, o2 + k, none⟩ = some (.string y)) (by kernel_rfl) ?_
        refine wpAnyR_takeQ (i := 0) (v := ?_) (some 33) rfl rfl (by kernel_rfl) (by kernel_rfl) (by kernel_rfl) (by kernel_rfl) (fun _ _ _ h => h) (Or.inl ⟨by rfl, ?_⟩) ?_
        rotate_left
        focus (intro wS hSw; (try dsimp only at hSw); go_simp; (try with_reducible rfl); (try (first | (rw [if_pos (by omega)]; (try go_simp); (try with_reducible rfl)) | (rw [if_neg (by omega)]; (try go_simp); (try with_reducible rfl)))))
        try simp only [Act.put, zA, zB, zC]
        refine wpAnyR_takeQ (i := 1) (v := ?_) (some 34) rfl rfl (by kernel_rfl) (by kernel_rfl) (by kernel_rfl) (by kernel_rfl) (fun _ _ _ h => h) (Or.inl ⟨by rfl, ?_⟩) ?_
        rotate_left
        focus (intro wS hSw; (try dsimp only at hSw); go_simp; (try with_reducible rfl); (try (first | (rw [if_pos (by omega)]; (try go_simp); (try with_reducible rfl)) | (rw [if_neg (by omega)]; (try go_simp); (try with_reducible rfl)))))
        try simp only [Act.put, zA, zB, zC]
        refine wpAnyR_takeQ (i := 2) (v := ?_) (some 35) rfl rfl (by kernel_rfl) (by kernel_rfl) (by kernel_rfl) (by kernel_rfl) (fun _ _ _ h => h) (Or.inl ⟨by rfl, ?_⟩) ?_
        rotate_left
        focus (intro wS hSw; (try dsimp only at hSw); go_simp; (try with_reducible rfl); (try (first | (rw [if_pos (by omega)]; (try go_simp); (try with_reducible rfl)) | (rw [if_neg (by omega)]; (try go_simp); (try with_reducible rfl)))))
        try simp only [Act.put, zA, zB, zC]
        refine wpAnyR_take (i := 3) (v := ?_) [8] (some 36) rfl rfl (by kernel_rfl) (by kernel_rfl) (by kernel_rfl) (by kernel_rfl) (by kernel_rfl) (by kernel_rfl) (by kernel_rfl) (fun _ _ _ h => h) (Or.inl ⟨by rfl, ?_⟩) hS ?_
        rotate_left
        focus (intro wS hSw; (try dsimp only at hSw); go_simp; (try with_reducible rfl); (try (first | (rw [if_pos (by omega)]; (try go_simp); (try with_reducible rfl)) | (rw [if_neg (by omega)]; (try go_simp); (try with_reducible rfl)))))
        try simp only [Act.put, zA, zB, zC]
        refine wpAnyR_takeQ (i := 4) (v := ?_) (some 37) rfl rfl (by kernel_rfl) (by kernel_rfl) (by kernel_rfl) (by kernel_rfl) (fun _ _ _ h => h) (Or.inl ⟨by rfl, ?_⟩) ?_
        rotate_left
        focus (intro wS hSw; (try dsimp only at hSw); go_simp; (try with_reducible rfl); (try (first | (rw [if_pos (by omega)]; (try go_simp); (try with_reducible rfl)) | (rw [if_neg (by omega)]; (try go_simp); (try with_reducible rfl)))))
        try simp only [Act.put, zA, zB, zC]
        refine wpAnyR_takeQ (i := 5) (v := ?_) (some 38) rfl rfl (by kernel_rfl) (by kernel_rfl) (by kernel_rfl) (by kernel_rfl) (fun _ _ _ h => h) (Or.inl ⟨by rfl, ?_⟩) ?_
        rotate_left
        focus (intro wS hSw; (try dsimp only at hSw); go_simp; (try with_reducible rfl); (try (first | (rw [if_pos (by omega)]; (try go_simp); (try with_reducible rfl)) | (rw [if_neg (by omega)]; (try go_simp); (try with_reducible rfl)))))
        try simp only [Act.put, zA, zB, zC]
        refine wpAnyR_takeQ (i := 6) (v := ?_) (some 39) rfl rfl (by kernel_rfl) (by kernel_rfl) (by kernel_rfl) (by kernel_rfl) (fun _ _ _ h => h) (Or.inl ⟨by rfl, ?_⟩) ?_
        rotate_left
        focus (intro wS hSw; (try dsimp only at hSw); go_simp; (try with_reducible rfl); (try (first | (rw [if_pos (by omega)]; (try go_simp); (try with_reducible rfl)) | (rw [if_neg (by omega)]; (try go_simp); (try with_reducible rfl)))))
        try simp only [Act.put, zA, zB, zC]
        refine wpAnyR_take (i := 7) (v := ?_) [8] (some 40) rfl rfl (by kernel_rfl) (by kernel_rfl) (by kernel_rfl) (by kernel_rfl) (by kernel_rfl) (by kernel_rfl) (by kernel_rfl) (fun _ _ _ h => h) (Or.inl ⟨by rfl, ?_⟩) hS ?_
        rotate_left
        focus (intro wS hSw; (try dsimp only at hSw); go_simp; (try with_reducible rfl); (try (first | (rw [if_pos (by omega)]; (try go_simp); (try with_reducible rfl)) | (rw [if_neg (by omega)]; (try go_simp); (try with_reducible rfl)))))
        try simp only [Act.put, zA, zB, zC]
        refine wpAnyR_takeQ (i := 8) (v := ?_) (some 41) rfl rfl (by kernel_rfl) (by kernel_rfl) (by kernel_rfl) (by kernel_rfl) (fun _ _ _ h => h) (Or.inl ⟨by rfl, ?_⟩) ?_
        rotate_left
        focus (intro wS hSw; (try dsimp only at hSw); go_simp; (try with_reducible rfl); (try (first | (rw [if_pos (by omega)]; (try go_simp); (try with_reducible rfl)) | (rw [if_neg (by omega)]; (try go_simp); (try with_reducible rfl)))))
        try simp only [Act.put, zA, zB, zC]
        try rw [HQ.out]
        refine wpAnyR_done (by kernel_rfl) ?_ _
        clear hS q0 p0
        go_wp2_with fail
        go_roundg (Y.length - (k + 1))
        case measure => rw [HGK.out]; omega
        case rel => exact ⟨k + 1, by omega, by omega, by go_num, by rw [HN.out]; exact HOWN.out.drew, HG.out.drew⟩
      · have HQ := Lib.hid (show (x.toList == y.toList) = false from beq_eq_false_iff_ne.2 (fun e => he (bytes_eq (by simpa [ByteArray.toList_eq] using e))))
        have HN := Lib.hid (show diffP X Y (k + 1) = diffP X Y k ++ [((k : Int), y)] from by rw [HNY.out k hlx hlt (by rw [hx, hy]; exact he), hy])
        clear he hx hy
        go_wp2_with fail
        refine wp_region_R [] (fun w' : World => w'.cell? ⟨b1, o1 + k, none⟩ = some (.string x) ∧ w'.cell? ⟨b2, o2 + k, none⟩ = some (.string y)) (by kernel_rfl) ?_
        refine wpAnyR_takeQ (i := 0) (v := ?_) (some 33) rfl rfl (by kernel_rfl) (by kernel_rfl) (by kernel_rfl) (by kernel_rfl) (fun _ _ _ h => h) (Or.inl ⟨by rfl, ?_⟩) ?_
        rotate_left
        focus (intro wS hSw; (try dsimp only at hSw); go_simp; (try with_reducible rfl); (try (first | (rw [if_pos (by omega)]; (try go_simp); (try with_reducible rfl)) | (rw [if_neg (by omega)]; (try go_simp); (try with_reducible rfl)))))
        try simp only [Act.put, zA, zB, zC]
        refine wpAnyR_takeQ (i := 1) (v := ?_) (some 34) rfl rfl (by kernel_rfl) (by kernel_rfl) (by kernel_rfl) (by kernel_rfl) (fun _ _ _ h => h) (Or.inl ⟨by rfl, ?_⟩) ?_
        rotate_left
        focus (intro wS hSw; (try dsimp only at hSw); go_simp; (try with_reducible rfl); (try (first | (rw [if_pos (by omega)]; (try go_simp); (try with_reducible rfl)) | (rw [if_neg (by omega)]; (try go_simp); (try with_reducible rfl)))))
        try simp only [Act.put, zA, zB, zC]
        refine wpAnyR_takeQ (i := 2) (v := ?_) (some 35) rfl rfl (by kernel_rfl) (by kernel_rfl) (by kernel_rfl) (by kernel_rfl) (fun _ _ _ h => h) (Or.inl ⟨by rfl, ?_⟩) ?_
        rotate_left
        focus (intro wS hSw; (try dsimp only at hSw); go_simp; (try with_reducible rfl); (try (first | (rw [if_pos (by omega)]; (try go_simp); (try with_reducible rfl)) | (rw [if_neg (by omega)]; (try go_simp); (try with_reducible rfl)))))
        try simp only [Act.put, zA, zB, zC]
        refine wpAnyR_take (i := 3) (v := ?_) [8] (some 36) rfl rfl (by kernel_rfl) (by kernel_rfl) (by kernel_rfl) (by kernel_rfl) (by kernel_rfl) (by kernel_rfl) (by kernel_rfl) (fun _ _ _ h => h) (Or.inl ⟨by rfl, ?_⟩) hS ?_
        rotate_left
        focus (intro wS hSw; (try dsimp only at hSw); go_simp; (try with_reducible rfl); (try (first | (rw [if_pos (by omega)]; (try go_simp); (try with_reducible rfl)) | (rw [if_neg (by omega)]; (try go_simp); (try with_reducible rfl)))))
        try simp only [Act.put, zA, zB, zC]
        refine wpAnyR_takeQ (i := 4) (v := ?_) (some 37) rfl rfl (by kernel_rfl) (by kernel_rfl) (by kernel_rfl) (by kernel_rfl) (fun _ _ _ h => h) (Or.inl ⟨by rfl, ?_⟩) ?_
        rotate_left
        focus (intro wS hSw; (try dsimp only at hSw); go_simp; (try with_reducible rfl); (try (first | (rw [if_pos (by omega)]; (try go_simp); (try with_reducible rfl)) | (rw [if_neg (by omega)]; (try go_simp); (try with_reducible rfl)))))
        try simp only [Act.put, zA, zB, zC]
        refine wpAnyR_takeQ (i := 5) (v := ?_) (some 38) rfl rfl (by kernel_rfl) (by kernel_rfl) (by kernel_rfl) (by kernel_rfl) (fun _ _ _ h => h) (Or.inl ⟨by rfl, ?_⟩) ?_
        rotate_left
        focus (intro wS hSw; (try dsimp only at hSw); go_simp; (try with_reducible rfl); (try (first | (rw [if_pos (by omega)]; (try go_simp); (try with_reducible rfl)) | (rw [if_neg (by omega)]; (try go_simp); (try with_reducible rfl)))))
        try simp only [Act.put, zA, zB, zC]
        refine wpAnyR_takeQ (i := 6) (v := ?_) (some 39) rfl rfl (by kernel_rfl) (by kernel_rfl) (by kernel_rfl) (by kernel_rfl) (fun _ _ _ h => h) (Or.inl ⟨by rfl, ?_⟩) ?_
        rotate_left
        focus (intro wS hSw; (try dsimp only at hSw); go_simp; (try with_reducible rfl); (try (first | (rw [if_pos (by omega)]; (try go_simp); (try with_reducible rfl)) | (rw [if_neg (by omega)]; (try go_simp); (try with_reducible rfl)))))
        try simp only [Act.put, zA, zB, zC]
        refine wpAnyR_take (i := 7) (v := ?_) [8] (some 40) rfl rfl (by kernel_rfl) (by kernel_rfl) (by kernel_rfl) (by kernel_rfl) (by kernel_rfl) (by kernel_rfl) (by kernel_rfl) (fun _ _ _ h => h) (Or.inl ⟨by rfl, ?_⟩) hS ?_
        rotate_left
        focus (intro wS hSw; (try dsimp only at hSw); go_simp; (try with_reducible rfl); (try (first | (rw [if_pos (by omega)]; (try go_simp); (try with_reducible rfl)) | (rw [if_neg (by omega)]; (try go_simp); (try with_reducible rfl)))))
        try simp only [Act.put, zA, zB, zC]
        refine wpAnyR_takeQ (i := 8) (v := ?_) (some 41) rfl rfl (by kernel_rfl) (by kernel_rfl) (by kernel_rfl) (by kernel_rfl) (fun _ _ _ h => h) (Or.inl ⟨by rfl, ?_⟩) ?_
        rotate_left
        focus (intro wS hSw; (try dsimp only at hSw); go_simp; (try with_reducible rfl); (try (first | (rw [if_pos (by omega)]; (try go_simp); (try with_reducible rfl)) | (rw [if_neg (by omega)]; (try go_simp); (try with_reducible rfl)))))
        try simp only [Act.put, zA, zB, zC]
        try rw [HQ.out]
        refine wpAnyR_done (by kernel_rfl) ?_ _
        clear hS
        obtain ⟨wz, hwz⟩ : ∃ wz, wz = wr.drew := ⟨_, rfl⟩
        have HOZ := Lib.hid (show OwnL wz w4.heap.size 67 2 _ ((diffP X Y k).map wrC) from by rw [hwz]; exact HOWN.out.drew)
        have HGZ := Lib.hid (show Grew w4 wz from by rw [hwz]; exact HG.out.drew)
        have p0 : wz.cell? ⟨b2, o2 + k, none⟩ = some (.string y) := by rw [hwz]; exact p0
        have hb2r : b2 < wz.heap.size := by rw [hwz]; exact hb2r
        have hgz : w4.heap.size ≤ wz.heap.size := by rw [hwz]; exact hgs
        rw [← hwz]
        clear hwz q0 hgs hb1r
        go_wp2_with (at_builtin; refine wpList_push rfl _ _ 59 rfl w4.heap.size 67 2 24 _ Try.underlying59 info_write rfl (by decide) wz _ ((diffP X Y k).map wrC) (wrC ((k : Int), y)) (by rfl) rfl rfl HOZ.out (by first | rfl | (simp; done)) rfl rfl (by rw [List.length_map]; omega) (by rw [List.length_map]; omega) hgz ?_; intro v' w5 hown5 hgr hbk hsz)
        have HO5 := Lib.hid hown5
        have HG5 := Lib.hid (hgr _ HGZ.out (Nat.le_refl _))
        clear hown5 hgr hbk p0
        go_roundg (Y.length - (k + 1))
        case measure => rw [HGK.out]; omega
        case rel => exact ⟨k + 1, by omega, by omega, by go_num, by rw [HN.out, List.map_append]; exact HO5.out, HG5.out⟩
    · have hkn : k = Y.length := by omega
      subst hkn
      have HO := Lib.hid (hown.lower2 (b' := w.heap.size) (by have := HG4.out.size; omega))
      clear hown hg
      go_wp2_with fail
      go_ret
      exact ⟨_, rfl, by rw [HD.out]; exact HO.out, HG4.out.trans HG.out⟩
end
end Go.Proofs.Ytnlaogneceanoaa
