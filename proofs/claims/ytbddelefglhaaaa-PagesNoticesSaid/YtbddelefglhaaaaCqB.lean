/- Chapter 4, plain: the earlier contents of the sectors of a store. Chapter 4, plain: the earlier contents behind Format and lists; harms. Chapter 4, plain: what is read of a store with harmed sectors. Chapter 4, plain: a harmed store is opened. Chapter 4's laws: sectors are harmed. -/
import Derived.Test.YtbddelefglhaaaaCpA
import Derived.Test.YtbddelefglhaaaaCpB
import Derived.Test.YtbddelefglhaaaaCpC
import Derived.Test.YtbddelefglhaaaaCpD
import Derived.Test.YtbddelefglhaaaaCpE
import Derived.Test.YtbddelefglhaaaaCpF
import Derived.Test.YtbddelefglhaaaaCpG
import Derived.Test.YtbddelefglhaaaaCpH
import Derived.Test.YtbddelefglhaaaaCpI
import Derived.Test.YtbddelefglhaaaaCpJ
import Derived.Test.YtbddelefglhaaaaCpK
import Derived.Test.YtbddelefglhaaaaCpL
import Derived.Test.YtbddelefglhaaaaCqA
namespace Go.Proofs.Ytbddelefglhaaaa
set_option linter.unusedVariables false
set_option linter.unusedSimpArgs false
set_option linter.unusedSectionVars false
open Go.RowKit
def verN (s : ByteArray) : Nat := (numS (s.extract 128 132)).toNat
theorem verN_pack (d : ByteArray) (v : Nat) (i : Int) (hv : v < 4294967296) : verN (packS d (nv v) i) = v := by
  obtain ⟨_, _, _, h4, _⟩ := pack_parts d (nv v) i
  unfold verN
  rw [h4, num_bytes, nv_toNat v hv]
theorem verN_blank : verN blankR = 0 := by
  unfold verN
  rw [zero_num 128 (by omega)]
  rfl
theorem olds_change (D : Dev) (hl : D.old.length = D.st.length) (i : Nat) (s : ByteArray) (hi : i < D.st.length) (j : Nat) : (changeD D i s).olds j = if j = i ∧ D.at i ≠ s then (D.at i :: D.olds i).take 8 else D.olds j := by
  unfold changeD
  by_cases h : D.at i = s
  · rw [if_pos h, if_neg (fun h9 => h9.2 h)]
  · rw [if_neg h]
    unfold Dev.olds
    show (D.old.set i ((D.at i :: D.old.getD i []).take 8)).getD j [] = _
    rw [List.getD_eq_getElem?_getD, List.getElem?_set]
    by_cases hj : j = i
    · subst hj
      rw [if_pos rfl, if_pos (by omega), if_pos ⟨rfl, h⟩]
      rfl
    · rw [if_neg (fun e => hj e.symm), if_neg (fun e => hj e.1), List.getD_eq_getElem?_getD]
theorem old_len (D : Dev) (i : Nat) (s : ByteArray) : (changeD D i s).old.length = D.old.length := by unfold changeD; split <;> simp
/-- Where the earlier contents come from, when each sector is written once. -/
theorem applyW_olds (l : Wl) : ∀ D : Dev, D.old.length = D.st.length → okW D l → (l.map (·.1)).Nodup → ∀ i, ∀ t ∈ (applyW D l).olds i, t ∈ D.olds i ∨ (t = D.at i ∧ ∃ s, lastE l i = some s) := by
  induction l with
  | nil => intro D _ _ _ i t ht; exact .inl ht
  | cons e l ih =>
    intro D hl hok hn i t ht
    rw [List.map_cons, List.nodup_cons] at hn
    have h1 := (hok e (List.mem_cons_self ..)).1
    have hE : lastE (e :: l) i = match lastE l i with
      | some s => some s
      | none => if i = e.1 then some e.2 else none := rfl
    rcases ih (changeD D e.1 e.2) (by rw [old_len, changeD_len]; exact hl) (fun x hx => by rw [changeD_len]; exact hok x (List.mem_cons_of_mem _ hx)) hn.2 i t ht with h9 | ⟨h9, s, h8⟩
    · rw [olds_change D hl e.1 e.2 h1] at h9
      by_cases hi : i = e.1 ∧ D.at e.1 ≠ e.2
      · rw [if_pos hi] at h9
        rcases List.mem_cons.1 (List.mem_of_mem_take h9) with h7 | h7
        · refine .inr ⟨by rw [h7, hi.1], ?_⟩
          rw [hE, if_pos hi.1]
          cases lastE l i with
          | some s => exact ⟨s, rfl⟩
          | none => exact ⟨_, rfl⟩
        · exact .inl (by rw [hi.1]; exact h7)
      · rw [if_neg hi] at h9
        exact .inl h9
    · have hie : i ≠ e.1 := fun h7 => by
        rw [lastE_none l i (fun x hx hq => hn.1 (by rw [← h7, ← hq]; exact List.mem_map_of_mem hx))] at h8
        cases h8
      rw [changeD_at D e.1 e.2 h1, if_neg hie] at h9
      exact .inr ⟨h9, s, by rw [hE, h8]⟩
/-- A clean device whose sectors have had nothing newer, and whose head has announced what is there. -/
structure Hist (D : Dev) (I : Img) : Prop where
  clean : Clean D I
  N1 : 1 ≤ I.N
  olds : ∀ i, i ≠ 33 → ∀ s ∈ D.olds i, verN s < verN (D.at i)
  slot : ∀ j, j < 97 → verN (D.at (34 + j)) ≤ I.N
  head : ∀ s ∈ D.olds 33, s = blankR ∨ ∃ (l : Wl) (v : Nat), s = headR l (nv v) ∧ Entries D.st.length l (nv v) ∧ v ≤ I.N ∧ (v = I.N → (∀ j (hj : j < l.length), D.at (34 + j) = l[j].2) ∧ ∀ e ∈ l, D.at e.1 = e.2)
theorem verN_top {D : Dev} {I : Img} (h : Holds D I) : verN (D.at 0) = I.N := by rw [h.top]; exact verN_pack _ _ _ h.img.N
theorem verN_map {D : Dev} {I : Img} (h : Holds D I) (k : Nat) (hk : k < 32) : verN (D.at (1 + k)) = I.ms k := by rw [h.map k hk]; exact verN_pack _ _ _ (by have := h.img.ms k; have := h.img.N; omega)
theorem verN_dat {D : Dev} {I : Img} (h : Holds D I) (i : Nat) (hi : i < I.n) : verN (D.at (131 + i)) = I.vs i := by rw [h.dat i hi]; exact verN_pack _ _ _ (by have := h.img.vs i; have := h.img.N; omega)
/-- No version is greater than the number of the last list. -/
theorem verN_le {D : Dev} {I : Img} (h : Hist D I) (i : Nat) (hi : i ≠ 33) (hl : i < D.st.length) : verN (D.at i) ≤ I.N := by
  have hlen := h.clean.len
  by_cases h0 : i = 0
  · subst h0; rw [verN_top h.clean.toHolds]; omega
  by_cases h1 : i ≤ 32
  · have := verN_map h.clean.toHolds (i - 1) (by omega)
    rw [show 1 + (i - 1) = i from by omega] at this
    rw [this]
    exact h.clean.img.ms _
  by_cases h2 : i < 131
  · have := h.slot (i - 34) (by omega)
    rwa [show 34 + (i - 34) = i from by omega] at this
  · have := verN_dat h.clean.toHolds (i - 131) (by omega)
    rw [show 131 + (i - 131) = i from by omega] at this
    rw [this]
    exact h.clean.img.vs _
theorem lastE_mem : ∀ (l : Wl) (i : Nat) (s : ByteArray), lastE l i = some s → (i, s) ∈ l := by
  intro l
  induction l with
  | nil => intro i s h; cases h
  | cons x l ih =>
    intro i s h
    have hE : lastE (x :: l) i = match lastE l i with
      | some s => some s
      | none => if i = x.1 then some x.2 else none := rfl
    rw [hE] at h
    cases h2 : lastE l i with
    | some t =>
      rw [h2] at h
      injection h with h
      exact List.mem_cons_of_mem _ (ih i s (by rw [h2, h]))
    | none =>
      rw [h2] at h
      simp only [] at h
      split at h
      · rename_i hi
        injection h with h
        rw [hi, ← h]
        exact List.mem_cons_self ..
      · cases h
theorem ver_entry {n : Nat} {l : Wl} {v : Nat} (h : Entries n l (nv v)) (hv : v < 4294967296) (e : Nat × ByteArray) (he : e ∈ l) : verN e.2 = v := by
  obtain ⟨d, hd⟩ := h.pack e he
  rw [hd]
  exact verN_pack _ _ _ hv
theorem hist_core (V : ByteArray → Nat) {D D1 D2 D3 D4 : Dev} {l : Wl} {N n : Nat} {hd bl : ByteArray} (hn : 131 ≤ n) (hlim : l.length ≤ 97)
    (at1 : ∀ i, D1.at i = if h : 34 ≤ i ∧ i < 34 + l.length then (l[i - 34]'(by omega)).2 else D.at i) (at2 : ∀ i, D2.at i = if i = 33 then hd else D1.at i) (at3 : ∀ i, D3.at i = (lastE l i).getD (D2.at i)) (at4 : ∀ i, D4.at i = if i = 33 then bl else D3.at i)
    (o1 : ∀ i t, t ∈ D1.olds i → t ∈ D.olds i ∨ (t = D.at i ∧ 34 ≤ i ∧ i < 34 + l.length)) (o2 : ∀ i t, t ∈ D2.olds i → t ∈ D1.olds i ∨ (t = D1.at i ∧ i = 33)) (o3 : ∀ i t, t ∈ D3.olds i → t ∈ D2.olds i ∨ (t = D2.at i ∧ ∃ s, lastE l i = some s)) (o4 : ∀ i t, t ∈ D4.olds i → t ∈ D3.olds i ∨ (t = D3.at i ∧ i = 33))
    (hvl : ∀ i s, lastE l i = some s → V s = N + 1 ∧ (i ≤ 32 ∨ (131 ≤ i ∧ i < n))) (hvj : ∀ j (hj : j < l.length), V l[j].2 = N + 1) (hle : ∀ i, i ≠ 33 → i < n → V (D.at i) ≤ N) (hO : ∀ i, i ≠ 33 → ∀ t ∈ D.olds i, V t < V (D.at i)) :
    (∀ i, i ≠ 33 → ∀ t ∈ D4.olds i, V t < V (D4.at i)) ∧ (∀ j, j < 97 → V (D4.at (34 + j)) ≤ N + 1) := by
  constructor
  · intro i hi t ht
    have h4 := (o4 i t ht).resolve_right (fun h9 => hi h9.2)
    rw [at4, if_neg hi, at3]
    rcases o3 i t h4 with h3 | ⟨h3, s, hs⟩
    · have h2 := (o2 i t h3).resolve_right (fun h9 => hi h9.2)
      rcases o1 i t h2 with h1 | ⟨h1, c1, c2⟩
      · have hb := hO i hi t h1
        cases hq : lastE l i with
        | some s =>
          obtain ⟨hx, hpl⟩ := hvl i s hq
          show V t < V s
          have := hle i hi (by omega)
          omega
        | none =>
          show V t < V (D2.at i)
          rw [at2, if_neg hi, at1]
          split
          · rename_i hc
            have := hvj (i - 34) (by omega)
            have := hle i hi (by omega)
            omega
          · exact hb
      · cases hq : lastE l i with
        | some s =>
          obtain ⟨hx, hpl⟩ := hvl i s hq
          omega
        | none =>
          show V t < V (D2.at i)
          rw [at2, if_neg hi, at1, dif_pos ⟨c1, c2⟩]
          have := hvj (i - 34) (by omega)
          have := hle i hi (by omega)
          rw [h1]
          omega
    · rw [hs]
      obtain ⟨hx, hpl⟩ := hvl i s hs
      show V t < V s
      have hb := hle i hi (by omega)
      rw [h3, at2, if_neg hi, at1, dif_neg (by omega)]
      omega
  · intro j hj
    rw [at4, if_neg (by omega), at3]
    cases hq : lastE l (34 + j) with
    | some s =>
      obtain ⟨hx, _⟩ := hvl _ s hq
      show V s ≤ N + 1
      omega
    | none =>
      show V (D2.at (34 + j)) ≤ _
      rw [at2, if_neg (by omega), at1]
      split
      · rename_i hc
        have := hvj (34 + j - 34) (by omega)
        omega
      · have := hle (34 + j) (by omega) (by omega)
        omega
/-- A commit keeps this. -/
theorem hist_commit {D : Dev} {I : Img} {l : Wl} (h : Hist D I) (he : Entries D.st.length l (nv (I.N + 1))) (hN : I.N + 1 < 4294967296) {J : Img} (hJ : Clean (ph4 D l (nv (I.N + 1))) J) (hJN : J.N = I.N + 1) : Hist (ph4 D l (nv (I.N + 1))) J := by
  have hok := h.clean.ok
  obtain ⟨k1, k2, k3, k4⟩ := ph_kept (v := nv (I.N + 1)) hok he
  obtain ⟨l1, l2, l3, l4⟩ := ph_len (v := nv (I.N + 1)) hok he
  have hlow := he.low
  have hlim := he.lim
  have hvl : ∀ e ∈ l, verN e.2 = I.N + 1 := fun e hm => ver_entry he hN e hm
  obtain ⟨v, hv⟩ : ∃ v, nv (I.N + 1) = v := ⟨_, rfl⟩
  have at1 : ∀ i, (ph1 D l).at i = if h : 34 ≤ i ∧ i < 34 + l.length then (l[i - 34]'(by omega)).2 else D.at i := fun i => ph1_at he i
  have at2 : ∀ i, (ph2 D l (nv (I.N + 1))).at i = if i = 33 then headR l (nv (I.N + 1)) else (ph1 D l).at i := fun i => ph2_at hok he i
  have at3 : ∀ i, (ph3 D l (nv (I.N + 1))).at i = (lastE l i).getD ((ph2 D l (nv (I.N + 1))).at i) := fun i => ph3_at hok he i
  have at4 : ∀ i, (ph4 D l (nv (I.N + 1))).at i = if i = 33 then blankR else (ph3 D l (nv (I.N + 1))).at i := fun i => ph4_at hok he i
  have one : ∀ (s : ByteArray) i, (∃ t, lastE [(33, s)] i = some t) → i = 33 := fun s i ⟨t, ht⟩ => by
    have := lastE_mem _ _ _ ht
    rw [List.mem_singleton] at this
    injection this with h1 _
  have o1 : ∀ i t, t ∈ (ph1 D l).olds i → t ∈ D.olds i ∨ (t = D.at i ∧ 34 ≤ i ∧ i < 34 + l.length) := fun i t ht => by
    rcases applyW_olds _ D hok.len (slotsW_ok he) (slotsW_nodup l) i t ht with h9 | ⟨h9, s, hs⟩
    · exact .inl h9
    · obtain ⟨j, hj, hjq⟩ := slotsW_mem l _ (lastE_mem _ _ _ hs)
      injection hjq with hj1 hj2
      exact .inr ⟨h9, by omega, by omega⟩
  have o2 : ∀ i t, t ∈ (ph2 D l (nv (I.N + 1))).olds i → t ∈ (ph1 D l).olds i ∨ (t = (ph1 D l).at i ∧ i = 33) := fun i t ht =>
    (applyW_olds _ (ph1 D l) k1.ok.len (okW_one (by omega) _ (packS_size ..)) (by simp) i t ht).imp id (fun h9 => ⟨h9.1, one _ i h9.2⟩)
  have o3 : ∀ i t, t ∈ (ph3 D l (nv (I.N + 1))).olds i → t ∈ (ph2 D l (nv (I.N + 1))).olds i ∨ (t = (ph2 D l (nv (I.N + 1))).at i ∧ ∃ s, lastE l i = some s) := fun i t ht => applyW_olds _ (ph2 D l (nv (I.N + 1))) k2.ok.len (fun e hm => by rw [l2]; exact he.lt e hm) he.nodup i t ht
  have o4 : ∀ i t, t ∈ (ph4 D l (nv (I.N + 1))).olds i → t ∈ (ph3 D l (nv (I.N + 1))).olds i ∨ (t = (ph3 D l (nv (I.N + 1))).at i ∧ i = 33) := fun i t ht =>
    (applyW_olds _ (ph3 D l (nv (I.N + 1))) k3.ok.len (okW_one (by omega) _ blankR_size) (by simp) i t ht).imp id (fun h9 => ⟨h9.1, one _ i h9.2⟩)
  have hlv : ∀ i s, lastE l i = some s → verN s = I.N + 1 := fun i s hs => hvl (i, s) (lastE_mem l i s hs)
  have hcore := hist_core verN (N := I.N) (n := D.st.length) hlow hlim at1 at2 at3 at4 o1 o2 o3 o4 (fun i s hs => ⟨hlv i s hs, he.place (i, s) (lastE_mem l i s hs)⟩) (fun j hj => hvl _ (List.getElem_mem hj)) (fun i h1 h2 => verN_le h i h1 h2) h.olds
  have nol : ∀ i, 33 ≤ i → i < 131 → lastE l i = none := fun i h1 h2 => lastE_none _ _ (fun e hm hq => by rcases he.place e hm with h9 | h9 <;> omega)
  refine ⟨hJ, by rw [hJN]; exact Nat.le_add_left _ _, hcore.1, fun j hj => by rw [hJN]; exact hcore.2 j hj, fun t ht => ?_⟩
  have hslot : ∀ j (hj : j < l.length), (ph4 D l (nv (I.N + 1))).at (34 + j) = l[j].2 := fun j hj => by
    rw [at4, if_neg (by omega), at3, nol _ (by omega) (by omega)]
    show (ph2 D l (nv (I.N + 1))).at (34 + j) = _
    rw [at2, if_neg (by omega), at1, dif_pos ⟨Nat.le_add_right _ _, Nat.add_lt_add_left hj _⟩]
    simp only [Nat.add_sub_cancel_left]
  have hent : ∀ e ∈ l, (ph4 D l (nv (I.N + 1))).at e.1 = e.2 := fun e hm => by
    have hp := he.place e hm
    rw [at4, if_neg (by omega), at3, lastE_one l he.nodup e hm]
    rfl
  rcases o4 33 t ht with h4 | ⟨h4, _⟩
  · rcases o3 33 t h4 with h3 | ⟨_, s, hs⟩
    · rcases o2 33 t h3 with h2 | ⟨h2, _⟩
      · rcases o1 33 t h2 with h1 | ⟨_, h9, _⟩
        · rcases h.head t h1 with h9 | ⟨l', v', h1, h2, h3, _⟩
          · exact .inl h9
          · exact .inr ⟨l', v', h1, by rw [l4]; exact h2, by rw [hJN]; exact Nat.le_succ_of_le h3, fun h9 => by rw [hJN] at h9; rw [h9] at h3; exact absurd h3 (Nat.not_succ_le_self _)⟩
        · exact absurd h9 (by decide)
      · left
        rw [h2, at1, dif_neg (fun h9 => absurd h9.1 (by decide))]
        exact h.clean.head
    · rw [nol 33 (by decide) (by decide)] at hs
      cases hs
  · right
    refine ⟨l, I.N + 1, ?_, by rw [l4]; exact he, by rw [hJN]; exact Nat.le_refl _, fun _ => ⟨hslot, hent⟩⟩
    rw [h4, at3, nol 33 (by decide) (by decide)]
    show (ph2 D l (nv (I.N + 1))).at 33 = _
    rw [at2, if_pos rfl]
end Go.Proofs.Ytbddelefglhaaaa
namespace Go.Proofs.Ytbddelefglhaaaa
set_option linter.unusedVariables false
set_option linter.unusedSimpArgs false
set_option linter.unusedSectionVars false
open Go.RowKit
theorem newD_at (n i : Nat) (hi : i < n) : (newD n).at i = blankR := by
  unfold Dev.at newD
  rw [List.getD_eq_getElem?_getD, List.getElem?_replicate, if_pos hi]
  rfl
theorem newD_olds (n i : Nat) : (newD n).olds i = [] := by
  unfold Dev.olds newD
  rw [List.getD_eq_getElem?_getD, List.getElem?_replicate]
  split <;> rfl
theorem fmt_ver (n : Nat) (e : Nat × ByteArray) (he : e ∈ fmtW n) (h33 : e.1 ≠ 33) : verN e.2 = 1 := by
  unfold fmtW at he
  rcases List.mem_append.1 he with he | he
  · obtain ⟨i, _, rfl⟩ := List.mem_map.1 he
    exact verN_pack _ 1 _ (by decide)
  rcases List.mem_append.1 he with he | he
  · obtain ⟨i, _, rfl⟩ := List.mem_map.1 he
    exact verN_pack _ 1 _ (by decide)
  · simp only [List.mem_cons, List.not_mem_nil, or_false] at he
    rcases he with rfl | rfl
    · exact verN_pack _ 1 _ (by decide)
    · exact absurd rfl h33
theorem fmt_place (n : Nat) (e : Nat × ByteArray) (he : e ∈ fmtW n) : e.1 ≤ 33 ∨ 131 ≤ e.1 := by
  unfold fmtW at he
  rcases List.mem_append.1 he with he | he
  · obtain ⟨i, _, rfl⟩ := List.mem_map.1 he
    right; show 131 ≤ 131 + i; omega
  rcases List.mem_append.1 he with he | he
  · obtain ⟨k, hk, rfl⟩ := List.mem_map.1 he
    have := List.mem_range.1 hk
    left; show 1 + k ≤ 33; omega
  · simp only [List.mem_cons, List.not_mem_nil, or_false] at he
    rcases he with rfl | rfl
    · left; show 0 ≤ 33; omega
    · left; show 33 ≤ 33; omega
theorem fmt_hist {n : Nat} (h1 : 1 ≤ n) (h2 : n ≤ 1024) {E : Dev} (hE : formatP (newD (131 + n)) 1 0 = (E, 0)) (hc : Clean E (img0 n)) : Hist E (img0 n) := by
  have hst : (newD (131 + n)).st.length = 131 + n := by unfold newD; simp
  have hcalm : Calm (newD (131 + n)) 1 0 := ⟨newD_ok _ (by omega) (by omega), rfl, by unfold plainW; decide, by show ¬ (0 : Int) < 0; omega⟩
  have hw := fmt_ok hst
  have hrun := runS_list 1 0 (fmtW n) (newD (131 + n)) hcalm rfl rfl hw
  unfold formatP fitsP at hE
  rw [hcalm.plain, decide_eq_true (show 132 ≤ (newD (131 + n)).st.length ∧ (newD (131 + n)).st.length ≤ 1155 from by omega), if_neg (by simp), hst, show 131 + n - 131 = n from by omega, hrun] at hE
  injection hE with hE _
  subst hE
  have hat : ∀ i, (applyW (newD (131 + n)) (fmtW n)).at i = (lastE (fmtW n) i).getD ((newD (131 + n)).at i) := applyW_at _ _ hw
  have hol := applyW_olds (fmtW n) (newD (131 + n)) hcalm.ok.len hw (fmt_keys n)
  have hb : ∀ i, ∀ t ∈ (applyW (newD (131 + n)) (fmtW n)).olds i, t = blankR ∧ ∃ s, lastE (fmtW n) i = some s := fun i t ht => by
    rcases hol i t ht with h9 | ⟨h9, s, hs⟩
    · rw [newD_olds] at h9; cases h9
    · have hlt := (hw _ (lastE_mem _ _ _ hs)).1
      rw [hst] at hlt
      exact ⟨by rw [h9, newD_at _ _ hlt], s, hs⟩
  refine ⟨hc, Nat.le_refl 1, fun i hi t ht => ?_, fun j hj => ?_, fun t ht => .inl (hb 33 t ht).1⟩
  · obtain ⟨h9, s, hs⟩ := hb i t ht
    have hv : verN s = 1 := fmt_ver n (i, s) (lastE_mem _ _ _ hs) hi
    rw [hat, hs, h9, verN_blank]
    show 0 < verN s
    rw [hv]
    exact Nat.zero_lt_one
  · have hno : lastE (fmtW n) (34 + j) = none := lastE_none _ _ (fun e he hq => by rcases fmt_place n e he with h9 | h9 <;> omega)
    rw [hat, hno]
    show verN ((newD (131 + n)).at (34 + j)) ≤ 1
    rw [newD_at _ _ (by omega), verN_blank]
    exact Nat.zero_le _
/-- Right writes keep all of this. -/
theorem hist_step {D : Dev} {I : Img} (h : Hist D I) (hn : Neat D I) {sy : Int} (hs : 1 ≤ sy ∧ sy ≤ 4) (fl : List (Int × ByteArray)) (hck : checkP I.n fl = 0) (hN : I.N < 1000) : Hist (commitP D sy 0 fl).1 (I.next fl) ∧ Neat (commitP D sy 0 fl).1 (I.next fl) := by
  have hcl := hn.clean
  by_cases hne : fl = []
  · have hx : I.next fl = I := if_pos hne
    rw [hx, (commitP_clean hcl (hn.calm hs) hn.fuse fl (by omega)).1 (.inr hne)]
    exact ⟨h, hn⟩
  · have hx : I.next fl = I.upd (sortW I.n fl) := if_neg hne
    obtain ⟨q1, q2, q3, q4, q5⟩ := commitP_is (sy := sy) (ep := 0) hcl fl (by omega) hck hne
    have ht := takes_of I fl hck hne (by omega)
    obtain ⟨r1, r2, r3, r4⟩ := commit_clean hcl ht (hn.calm hs) hn.fuse
    have he := entL_ok hcl.img ht
    rw [← hcl.len] at he
    rw [q1, entG_is hcl.toHolds ht, r1, hx]
    exact ⟨hist_commit h he (by omega) r2 rfl, r2, r3.trans hn.fen, r4⟩
theorem fill_hist (L : List WsE) {D : Dev} {n : Nat} (hn : Neat D (img0 n)) (h : Hist D (img0 n)) : ∀ i, i ≤ 6 → Hist (fillK L (D, img0 n) i).1 (fillK L (D, img0 n) i).2 ∧ Neat (fillK L (D, img0 n) i).1 (fillK L (D, img0 n) i).2 ∧ (fillK L (D, img0 n) i).2.n = n ∧ (fillK L (D, img0 n) i).2.N ≤ 1 + i := by
  intro i
  induction i with
  | zero => intro _; exact ⟨h, hn, rfl, Nat.le_refl _⟩
  | succ i ih =>
    intro hi
    obtain ⟨h1, h2, h3, h4⟩ := ih (by omega)
    have hn0 := hn.clean.img.n0
    have hn0' : 1 ≤ n := hn0
    obtain ⟨q1, q2, q3, q4, q5, q6, q7⟩ := fair_next (I := (fillK L (D, img0 n) i).2) (by rw [h3]; omega) (L.getD i default).l
    obtain ⟨g1, g2⟩ := hist_step h1 h2 (sysL_bd (i % 3)) _ q2 (by omega)
    have hN : (fillK L (D, img0 n) (i + 1)).2.N ≤ 1 + (i + 1) := by
      show ((fillK L (D, img0 n) i).2.next (fairP (fillK L (D, img0 n) i).2.n 12 (L.getD i default).l)).N ≤ _
      omega
    exact ⟨g1, g2, q4.trans h3, hN⟩
/-- A harm: a sector, a byte and its mask, how far back. -/
structure HarmD where
  raw : Nat
  at_ : Nat
  mask : Nat
  back : Nat
def HarmD.ok (h : HarmD) : Prop := h.raw < 65536 ∧ h.at_ < 65536 ∧ h.mask < 256 ∧ h.back < 256
def HarmD.sec (h : HarmD) (first last : Nat) : Nat := first + h.raw % (last - first + 1)
def HarmD.bits (h : HarmD) : UInt8 := UInt8.ofNat (h.mask ||| 1)
def harm1 (first last : Nat) (dmg : Bool) (p : Dev × List Nat) (h : HarmD) : Dev × List Nat :=
  if h.sec first last ∈ p.2 then p
  else if dmg = false ∧ h.mask % 2 = 0 ∧ 0 < earlierD p.1 (h.sec first last : Nat) then ((returnD p.1 (h.sec first last : Nat) (1 + ((h.back % earlierD p.1 (h.sec first last : Nat) : Nat) : Int))).1, h.sec first last :: p.2)
  else ((damageD p.1 (h.sec first last : Nat) ((h.at_ % 140 : Nat) : Int) h.bits).1, h.sec first last :: p.2)
def harmP (first last : Nat) (dmg : Bool) (D : Dev) (l : List HarmD) : Dev × List Nat := l.foldl (harm1 first last dmg) (D, [])
theorem harmP_step (first last : Nat) (dmg : Bool) (D : Dev) (l : List HarmD) (k : Nat) (hk : k < l.length) : harmP first last dmg D (l.take (k + 1)) = harm1 first last dmg (harmP first last dmg D (l.take k)) l[k] := by
  unfold harmP
  rw [List.take_succ_eq_append_getElem hk, List.foldl_append]
  rfl
structure Harmed (first last : Nat) (dmg : Bool) (D D' : Dev) (H : List Nat) : Prop where
  out : ∀ i, i ∉ H → D'.at i = D.at i
  inn : ∀ i ∈ H, (∃ (k : Nat) (m : UInt8), k < 140 ∧ m ≠ 0 ∧ D'.at i = xorB (D.at i) k m) ∨ (dmg = false ∧ D'.at i ∈ D.olds i)
  rng : ∀ i ∈ H, first ≤ i ∧ i ≤ last
  nodup : H.Nodup
  ok : D'.Ok
  len : D'.st.length = D.st.length
  old : D'.old = D.old
  pend : D'.pend = D.pend
  fen : D'.fen = D.fen
  fuse : D'.fuse = D.fuse
  failed : D'.failed = D.failed
theorem Harmed.refl (first last : Nat) (dmg : Bool) {D : Dev} (h : D.Ok) : Harmed first last dmg D D [] := ⟨fun _ _ => rfl, fun i hi => (by cases hi), fun i hi => (by cases hi), List.nodup_nil, h, rfl, rfl, rfl, rfl, rfl, rfl⟩
theorem bits_ne (h : HarmD) (hok : h.ok) : h.bits ≠ 0 := by
  have key : ∀ m : Fin 256, UInt8.ofNat (m.1 ||| 1) ≠ 0 := by decide +kernel
  exact key ⟨h.mask, hok.2.2.1⟩
theorem set_at (D : Dev) (i : Nat) (s : ByteArray) (hi : i < D.st.length) (j : Nat) : ({ D with st := D.st.set i s } : Dev).at j = if j = i then s else D.at j := by
  unfold Dev.at
  show (D.st.set i s).getD j emp = _
  rw [List.getD_eq_getElem?_getD, List.getElem?_set]
  by_cases hj : j = i
  · subst hj
    rw [if_pos rfl, if_pos hi, if_pos rfl]
    rfl
  · rw [if_neg (fun h => hj h.symm), if_neg hj, List.getD_eq_getElem?_getD]
theorem set_ok {D : Dev} (h : D.Ok) (i : Nat) (s : ByteArray) (hs : s.size = 140) : ({ D with st := D.st.set i s } : Dev).Ok := by
  refine ⟨by simp [h.len], by simp [h.pos], by simpa using h.lim, fun t ht => ?_, h.old, fun r hr => by simpa using h.pend r hr, h.fen⟩
  rcases List.mem_or_eq_of_mem_set ht with h9 | h9
  · exact h.st t h9
  · rw [h9]; exact hs
theorem Harmed.more {first last : Nat} {dmg : Bool} {D D' : Dev} {H : List Nat} (h : Harmed first last dmg D D' H) {i : Nat} (hi : i ∉ H) (hr : first ≤ i ∧ i ≤ last) (hl : i < D.st.length) {s : ByteArray} (hs : s.size = 140) (hin : (∃ (k : Nat) (m : UInt8), k < 140 ∧ m ≠ 0 ∧ s = xorB (D.at i) k m) ∨ (dmg = false ∧ s ∈ D.olds i)) : Harmed first last dmg D { D' with st := D'.st.set i s } (i :: H) := by
  have hat := set_at D' i s (by rw [h.len]; exact hl)
  refine ⟨fun j hj => ?_, fun j hj => ?_, fun j hj => ?_, List.nodup_cons.2 ⟨hi, h.nodup⟩, set_ok h.ok i s hs, (List.length_set ..).trans h.len, h.old, h.pend, h.fen, h.fuse, h.failed⟩
  · rw [hat, if_neg (fun e => hj (by rw [e]; exact List.mem_cons_self ..)), h.out j (fun h9 => hj (List.mem_cons_of_mem _ h9))]
  · rw [hat]
    rcases List.mem_cons.1 hj with h9 | h9
    · rw [if_pos h9, h9]; exact hin
    · rw [if_neg (fun e => hi (by rw [← e]; exact h9))]
      exact h.inn j h9
  · rcases List.mem_cons.1 hj with h9 | h9
    · rw [h9]; exact hr
    · exact h.rng j h9
theorem harm1_ok {first last : Nat} {dmg : Bool} {D : Dev} (hD : D.Ok) (hr : first ≤ last) (hl : last < D.st.length) {p : Dev × List Nat} (hp : Harmed first last dmg D p.1 p.2) (h : HarmD) (hok : h.ok) : Harmed first last dmg D (harm1 first last dmg p h).1 (harm1 first last dmg p h).2 ∧
    ((h.sec first last ∈ p.2 ∧ harm1 first last dmg p h = p) ∨ (h.sec first last ∉ p.2 ∧ (harm1 first last dmg p h).2 = h.sec first last :: p.2)) := by
  have hb : first ≤ h.sec first last ∧ h.sec first last ≤ last := by
    unfold HarmD.sec
    have := Nat.mod_lt h.raw (show last - first + 1 > 0 by omega)
    omega
  have hth : thereD p.1 (h.sec first last : Nat) = true := by
    unfold thereD
    exact decide_eq_true ⟨by omega, by rw [hp.len]; omega⟩
  unfold harm1
  by_cases h1 : h.sec first last ∈ p.2
  · rw [if_pos h1]
    exact ⟨hp, .inl ⟨h1, rfl⟩⟩
  rw [if_neg h1]
  by_cases h2 : dmg = false ∧ h.mask % 2 = 0 ∧ 0 < earlierD p.1 (h.sec first last : Nat)
  · rw [if_pos h2]
    refine ⟨?_, .inr ⟨h1, rfl⟩⟩
    have he : earlierD p.1 (h.sec first last : Nat) = (p.1.olds (h.sec first last)).length := by unfold earlierD; rw [if_pos hth, Int.toNat_natCast]
    have hol : p.1.olds (h.sec first last) = D.olds (h.sec first last) := by unfold Dev.olds; rw [hp.old]
    have hm : h.back % earlierD p.1 (h.sec first last : Nat) < (D.olds (h.sec first last)).length := by rw [he, hol]; exact Nat.mod_lt _ (by rw [← hol, ← he]; exact h2.2.2)
    obtain ⟨b, hbk⟩ : ∃ b, h.back % earlierD p.1 (h.sec first last : Nat) = b := ⟨_, rfl⟩
    rw [hbk] at hm ⊢
    have hret : (returnD p.1 (h.sec first last : Nat) (1 + (b : Int))).1 = { p.1 with st := p.1.st.set (h.sec first last) ((D.olds (h.sec first last)).getD b emp) } := by
      unfold returnD
      rw [if_neg (by
        rw [hth, Int.toNat_natCast, hol]
        intro h9
        rcases h9 with h9 | h9 | h9
        · cases h9
        · omega
        · omega), Int.toNat_natCast, hol, show (1 + (b : Int)).toNat - 1 = b from by omega]
    rw [hret]
    have hg : (D.olds (h.sec first last)).getD b emp ∈ D.olds (h.sec first last) := by
      rw [List.getD_eq_getElem?_getD, List.getElem?_eq_getElem hm]
      exact List.getElem_mem hm
    exact hp.more h1 hb (by omega) (olds_size hD _ _ hg) (.inr ⟨h2.1, hg⟩)
  · rw [if_neg h2]
    refine ⟨?_, .inr ⟨h1, rfl⟩⟩
    have hk : h.at_ % 140 < 140 := Nat.mod_lt _ (by omega)
    have hdm : (damageD p.1 (h.sec first last : Nat) ((h.at_ % 140 : Nat) : Int) h.bits).1 = { p.1 with st := p.1.st.set (h.sec first last) (xorB (D.at (h.sec first last)) (h.at_ % 140) h.bits) } := by
      unfold damageD
      rw [if_neg (by
        rw [hth]
        intro h9
        rcases h9 with h9 | h9 | h9
        · cases h9
        · omega
        · omega), if_neg (bits_ne h hok), Int.toNat_natCast, Int.toNat_natCast, hp.out _ h1]
    rw [hdm]
    exact hp.more h1 hb (by omega) (by rw [xorB_size']; exact at_size hD (by omega)) (.inl ⟨_, _, hk, bits_ne h hok, rfl⟩)
end Go.Proofs.Ytbddelefglhaaaa
namespace Go.Proofs.Ytbddelefglhaaaa
set_option linter.unusedVariables false
set_option linter.unusedSimpArgs false
set_option linter.unusedSectionVars false
open Go.RowKit
/-- A raw sector of which a byte is changed is not readable as any. -/
theorem damage_shut2 (s : ByteArray) (i j : Int) (k : Nat) (m : UInt8) (h : okR s i) (hk : k < 140) (hm : m ≠ 0) : ¬ okR (xorB s k m) j := by
  obtain ⟨h1, h2, _⟩ := h
  rintro ⟨g1, g2, _⟩
  by_cases c1 : k < 136
  · rw [xorB_out _ _ _ 136 140 (.inl (by omega)), xorB_in _ _ _ 0 136 (Nat.zero_le _) (by omega), h2] at g2
    exact sum_one _ _ m (by rw [ByteArray.size_extract]; omega) hm g2.symm
  · rw [xorB_in _ _ _ 136 140 (by omega) (by omega), xorB_out _ _ _ 0 136 (.inr (by omega)), ← h2] at g2
    have e := congrArg bytesS g2
    rw [bytes_num _ (by rw [xorB_size', ByteArray.size_extract]; omega), bytes_num _ (by rw [ByteArray.size_extract]; omega)] at e
    exact xorB_ne _ _ m (by rw [ByteArray.size_extract]; omega) hm e
theorem zero_bytes (i j : Nat) (h : i + 4 ≤ 140) (hj : j = i + 4) : blankR.extract i j = zeroS 4 := by
  subst hj
  apply bytes_ext
  rw [ext_list]
  show ((List.replicate 140 (0 : UInt8)).toArray.toList.drop i).take (i + 4 - i) = (List.replicate 4 (0 : UInt8)).toArray.toList
  rw [List.drop_replicate, List.take_replicate, show min (i + 4 - i) (140 - i) = 4 from by omega]
theorem blank_sum : sumS ((xorB blankR 132 33).extract 0 136) ≠ 0#32 := by
  have hl : ((xorB blankR 132 33).extract 0 136).data.toList = List.replicate 12 0 ++ (List.replicate 12 0 ++ (List.replicate 12 0 ++ (List.replicate 12 0 ++ (List.replicate 12 0 ++ (List.replicate 12 0 ++ (List.replicate 12 0 ++ (List.replicate 12 0 ++ (List.replicate 12 0 ++ (List.replicate 12 0 ++ (List.replicate 12 0 ++ [33, 0, 0, 0])))))))))) := by
    rw [ext_list, xorB_list]
    decide +kernel
  have c0 : crcU (List.replicate 12 0) 0xffffffff#32 = 0xd49f4aa2#32 := by decide +kernel
  have c1 : crcU (List.replicate 12 0) 0xd49f4aa2#32 = 0x7b041311#32 := by decide +kernel
  have c2 : crcU (List.replicate 12 0) 0x7b041311#32 = 0x5d9d92d#32 := by decide +kernel
  have c3 : crcU (List.replicate 12 0) 0x5d9d92d#32 = 0xd773c546#32 := by decide +kernel
  have c4 : crcU (List.replicate 12 0) 0xd773c546#32 = 0xa5f4face#32 := by decide +kernel
  have c5 : crcU (List.replicate 12 0) 0xa5f4face#32 = 0xe01da034#32 := by decide +kernel
  have c6 : crcU (List.replicate 12 0) 0xe01da034#32 = 0xc286c65#32 := by decide +kernel
  have c7 : crcU (List.replicate 12 0) 0xc286c65#32 = 0xae0dfb54#32 := by decide +kernel
  have c8 : crcU (List.replicate 12 0) 0xae0dfb54#32 = 0xb3f88c19#32 := by decide +kernel
  have c9 : crcU (List.replicate 12 0) 0xb3f88c19#32 = 0x9650e1c#32 := by decide +kernel
  have c10 : crcU (List.replicate 12 0) 0x9650e1c#32 = 0x45cd45d#32 := by decide +kernel
  have cz : crcU [33, 0, 0, 0] 0x45cd45d#32 = 0x6e6984b0#32 := by decide +kernel
  have ha : ∀ (a b : List UInt8) (x : BitVec 32), crcU (a ++ b) x = crcU b (crcU a x) := fun a b x => by unfold crcU; rw [List.foldl_append]
  unfold sumS
  rw [hl, show (~~~0#32 : BitVec 32) = 0xffffffff#32 from by decide, ha, c0, ha, c1, ha, c2, ha, c3, ha, c4, ha, c5, ha, c6, ha, c7, ha, c8, ha, c9, ha, c10, cz]
  decide
/-- A cleared head of which a byte is changed is not readable. -/
theorem blank_harm (k : Nat) (m : UInt8) (hk : k < 140) (hm : m ≠ 0) : ¬ okR (xorB blankR k m) 33 := by
  rintro ⟨_, g2, g3⟩
  have hi33 : idx32 33 = nv 33 := by decide
  rw [hi33] at g3
  by_cases c1 : 132 ≤ k ∧ k < 136
  · by_cases c2 : k = 132
    · subst c2
      rw [xorB_in _ _ _ 132 136 (by omega) (by omega), zero_bytes 132 136 (by omega) rfl] at g3
      have key : ∀ x : Fin 256, numS (xorB (zeroS 4) (132 - 132) (UInt8.ofNat x.1)) = nv 33 → x.1 = 33 := by decide +kernel
      have := key ⟨m.toNat, m.toNat_lt⟩ (by rw [UInt8.ofNat_toNat]; exact g3)
      have hm33 : m = 33 := UInt8.toNat_inj.1 this
      subst hm33
      rw [xorB_out _ _ _ 136 140 (.inl (by omega)), zero_bytes 136 140 (by omega) rfl] at g2
      exact blank_sum (by rw [← g2]; decide)
    · have key : ∀ (y : Fin 3) (x : Fin 256), numS (xorB (zeroS 4) (y.1 + 1) (UInt8.ofNat x.1)) ≠ nv 33 := by decide +kernel
      rw [xorB_in _ _ _ 132 136 c1.1 c1.2, zero_bytes 132 136 (by omega) rfl] at g3
      have := key ⟨k - 133, by omega⟩ ⟨m.toNat, m.toNat_lt⟩
      rw [UInt8.ofNat_toNat] at this
      exact this (by rw [show k - 133 + 1 = k - 132 from by omega]; exact g3)
  · rw [xorB_out _ _ _ 132 136 (by omega), zero_num 132 (by omega)] at g3
    exact absurd g3 (by decide)
/-- Not readable, or older than it should be. -/
def badR (idx ver : Nat) (s : ByteArray) : Prop := ¬ okR s (idx : Nat) ∨ verN s < ver
/-- A device that holds a store, some of whose map and data sectors are bad. -/
structure Sick (F : Dev) (I : Img) (H : List Nat) : Prop where
  ok : F.Ok
  img : I.Ok
  len : F.st.length = 131 + I.n
  live : F.failed = false
  pend : F.pend = []
  noint : intentL F = []
  top : F.at 0 = I.topR
  map : ∀ k, k < 32 → F.at (1 + k) = I.mapR k ∨ (1 + k ∈ H ∧ badR (1 + k) (I.ms k) (F.at (1 + k)))
  dat : ∀ i, i < I.n → F.at (131 + i) = I.datR i ∨ (131 + i ∈ H ∧ badR (131 + i) (I.vs i) (F.at (131 + i)))
theorem Sick.content {F : Dev} {I : Img} {H : List Nat} (h : Sick F I H) (i : Nat) : F.content i = F.at i := by unfold Dev.content; rw [h.pend]; rfl
theorem Sick.topI {F : Dev} {I : Img} {H : List Nat} (h : Sick F I H) : topI F = ⟨vbytes I.tops, nv I.N, true⟩ := by
  unfold Go.Proofs.Ytbddelefglhaaaa.topI
  rw [h.content, h.top]
  unfold Img.topR
  rw [rawOf_pack]
  unfold Img.tops
  rw [vb32]
theorem Sick.finD {F : Dev} {I : Img} {H : List Nat} (h : Sick F I H) (sy ep : Int) : finD F sy ep = (F, false, 0) := by
  unfold Go.Proofs.Ytbddelefglhaaaa.finD
  rw [if_neg (by rw [h.live]; simp), if_pos h.noint]
/-- What is read of a bad sector has another version, or is not readable. -/
theorem bad_raw {idx ver : Nat} {s : ByteArray} (h : badR idx ver s) (hv : ver < 4294967296) : (rawOf s (idx : Nat)).ok = false ∨ ((rawOf s (idx : Nat)).ok = true ∧ (rawOf s (idx : Nat)).ver ≠ nv ver) := by
  unfold rawOf
  by_cases hk : okR s (idx : Nat)
  · rw [if_pos hk]
    right
    refine ⟨rfl, fun e => ?_⟩
    have h2 := h.resolve_left (fun h9 => h9 hk)
    unfold verN at h2
    have e2 : numS (s.extract 128 132) = nv ver := e
    rw [e2, nv_toNat ver hv] at h2
    exact Nat.lt_irrefl _ h2
  · rw [if_neg hk]
    exact .inl rfl
/-- Each data sector is read with its last content, or as bad; and then it or its map sector was harmed. -/
theorem Sick.look {F : Dev} {I : Img} {H : List Nat} (h : Sick F I H) (i : Nat) (hi : i < I.n) : lookI F i = (I.cs i, 0) ∨ (((lookI F i).2 = 11 ∨ (lookI F i).2 = 12) ∧ (131 + i ∈ H ∨ 1 + i / 32 ∈ H)) := by
  have hn := h.img.n1
  have hk : i / 32 < 32 := by omega
  have hms := h.img.ms (i / 32)
  have hvs := h.img.vs i
  have hNN := h.img.N
  have hft : fld (vbytes I.tops) (i / 32) = nv (I.ms (i / 32)) := by unfold Img.tops; rw [fld32 _ _ hk]
  have hfm : fld (vbytes (I.mapL (i / 32))) (i % 32) = nv (I.vs i) := by
    unfold Img.mapL
    rw [fld32 _ _ (Nat.mod_lt _ (by omega))]
    unfold Img.mv
    rw [show 32 * (i / 32) + i % 32 = i from by omega, if_pos hi]
  unfold lookI
  rw [h.topI, if_neg (by simp)]
  rcases h.map (i / 32) hk with hm | ⟨hmH, hm⟩
  · have hmi : mapI F (i / 32) = ⟨vbytes (I.mapL (i / 32)), nv (I.ms (i / 32)), true⟩ := by
      unfold Go.Proofs.Ytbddelefglhaaaa.mapI
      rw [h.content, hm]
      unfold Img.mapR
      rw [rawOf_pack]
      unfold Img.mapL
      rw [vb32]
    rw [hmi, if_neg (by simp), if_neg (fun h9 => h9 hft.symm)]
    rcases h.dat i hi with hd | ⟨hdH, hd⟩
    · have hdi : datI F i = ⟨I.cs i, nv (I.vs i), true⟩ := by
        unfold Go.Proofs.Ytbddelefglhaaaa.datI
        rw [h.content, hd]
        unfold Img.datR
        rw [rawOf_pack, dataS_full _ (h.img.cs i hi)]
      rw [hdi, if_neg (by simp), if_neg (fun h9 => h9 hfm.symm)]
      exact .inl rfl
    · have hb : (datI F i).ok = false ∨ ((datI F i).ok = true ∧ (datI F i).ver ≠ nv (I.vs i)) := by
        unfold Go.Proofs.Ytbddelefglhaaaa.datI
        rw [h.content]
        exact bad_raw hd (by omega)
      right
      refine ⟨?_, .inl hdH⟩
      rcases hb with hb | ⟨hb1, hb2⟩
      · rw [if_pos hb]; exact .inl rfl
      · rw [if_neg (by rw [hb1]; simp), if_pos (by show (datI F i).ver ≠ fld (vbytes (I.mapL (i / 32))) (i % 32); rw [hfm]; exact hb2)]
        exact .inr rfl
  · have hb : (mapI F (i / 32)).ok = false ∨ ((mapI F (i / 32)).ok = true ∧ (mapI F (i / 32)).ver ≠ nv (I.ms (i / 32))) := by
      unfold Go.Proofs.Ytbddelefglhaaaa.mapI
      rw [h.content]
      exact bad_raw hm (by omega)
    right
    refine ⟨?_, .inr hmH⟩
    rcases hb with hb | ⟨hb1, hb2⟩
    · rw [if_pos hb]; exact .inl rfl
    · rw [if_neg (by rw [hb1]; simp), if_pos (by show (mapI F (i / 32)).ver ≠ fld (vbytes I.tops) (i / 32); rw [hft]; exact hb2)]
      exact .inr rfl
theorem Sick.read {F : Dev} {I : Img} {H : List Nat} (h : Sick F I H) (sy ep : Int) (i : Nat) (hi : i < I.n) : ∃ d er, readP F sy ep (i : Int) = (F, d, er) ∧ ((er = 0 ∧ d = I.cs i) ∨ ((er = 11 ∨ er = 12) ∧ (131 + i ∈ H ∨ 1 + i / 32 ∈ H))) := by
  have hl := h.len
  unfold readP
  rw [h.finD, if_neg (by simp), if_neg (by omega), Int.toNat_natCast]
  rcases h.look i hi with h9 | ⟨h9, h8⟩
  · exact ⟨_, _, rfl, .inl ⟨by show (lookI F i).2 = 0; rw [h9], by show (if (lookI F i).2 = 0 then (lookI F i).1 else emptyS) = _; rw [h9]; rfl⟩⟩
  · exact ⟨_, _, rfl, .inr ⟨h9, h8⟩⟩
end Go.Proofs.Ytbddelefglhaaaa
namespace Go.Proofs.Ytbddelefglhaaaa
set_option linter.unusedVariables false
set_option linter.unusedSimpArgs false
set_option linter.unusedSectionVars false
open Go.RowKit
theorem Harmed.content {first last : Nat} {dmg : Bool} {D D' : Dev} {I : Img} {H : List Nat} (hh : Harmed first last dmg D D' H) (h : Clean D I) (i : Nat) : D'.content i = D'.at i := by unfold Dev.content; rw [hh.pend, h.pend]; rfl
theorem okR_pack (d : ByteArray) (v : U32) (i : Int) : okR (packS d v i) i := by
  obtain ⟨h1, h2, _, _, h5⟩ := pack_parts d v i
  exact ⟨packS_size d v i, by rw [h1, h2, num_bytes], by rw [h5, num_bytes]⟩
/-- A harmed sector of the map or of data is bad. -/
theorem harmed_bad {first last : Nat} {dmg : Bool} {D D' : Dev} {I : Img} {H : List Nat} (h : Hist D I) (hh : Harmed first last dmg D D' H) {i ver : Nat} (hi : i ∈ H) (h33 : i ≠ 33) {d : ByteArray} {v : U32} (hp : D.at i = packS d v (i : Nat)) (hv : verN (D.at i) = ver) : badR i ver (D'.at i) := by
  rcases hh.inn i hi with ⟨k, m, hk, hm, he⟩ | ⟨_, ho⟩
  · left
    rw [he]
    exact damage_shut2 _ (i : Nat) _ k m (by rw [hp]; exact okR_pack d v (i : Nat)) hk hm
  · right
    have := h.olds i h33 _ ho
    rw [hv] at this
    exact this
theorem sick_of {dmg : Bool} {first last : Nat} {D D' : Dev} {I : Img} {H : List Nat} (h : Hist D I) (hh : Harmed first last dmg D D' H) (hf : 1 ≤ first) (hi : intentL D' = []) : Sick D' I H := by
  have hc := h.clean
  refine ⟨hh.ok, hc.img, hh.len.trans hc.len, hh.failed.trans hc.live, hh.pend.trans hc.pend, hi, ?_, fun k hk => ?_, fun i hi => ?_⟩
  · rw [hh.out 0 (fun h9 => by have := (hh.rng 0 h9).1; omega), hc.top]
  · by_cases hin : 1 + k ∈ H
    · exact .inr ⟨hin, harmed_bad h hh hin (by omega) (hc.map k hk) (verN_map hc.toHolds k hk)⟩
    · exact .inl (by rw [hh.out _ hin, hc.map k hk])
  · by_cases hin : 131 + i ∈ H
    · exact .inr ⟨hin, harmed_bad h hh hin (by omega) (hc.dat i hi) (verN_dat hc.toHolds i hi)⟩
    · exact .inl (by rw [hh.out _ hin, hc.dat i hi])
/-- What a head says. -/
theorem head_says {E : Dev} {l : Wl} {v : U32} (hlim : l.length ≤ 97) (hc : E.content 33 = headR l v) : headI E = ⟨dataS (headDat l v), v, true⟩ ∧ cntI E = l.length := by
  obtain ⟨f0, f1, f2, f3⟩ := head_flds l v
  have hhead : headI E = ⟨dataS (headDat l v), v, true⟩ := by
    unfold headI
    rw [hc]
    exact rawOf_pack _ _ 33
  refine ⟨hhead, ?_⟩
  unfold cntI
  rw [hhead]
  show (fld (dataS (headDat l v)) 1).toNat = _
  rw [f1, nv_toNat _ (by omega)]
theorem harm_opens {D D' : Dev} {I : Img} {H : List Nat} (h : Hist D I) (hn : Neat D I) (hN : I.N < 1000) (hh : Harmed 1 (D.st.length - 1) false D D' H) : ∃ F, openP D' 2 0 = (F, 0) ∧ Sick F I H := by
  have hc := h.clean
  have hct := hh.content hc
  have hlen := hn.len
  have hlenc := hc.len
  have h0 : 0 ∉ H := fun h9 => by have := (hh.rng 0 h9).1; omega
  have htopat : D'.at 0 = I.topR := by rw [hh.out 0 h0, hc.top]
  have htop : topI D' = ⟨vbytes I.tops, nv I.N, true⟩ := by
    unfold topI
    rw [hct, htopat]
    unfold Img.topR
    rw [rawOf_pack]
    unfold Img.tops
    rw [vb32]
  have hcalm : Calm D' 2 0 := ⟨hh.ok, hh.failed.trans hc.live, by decide, by rw [hh.fen, hn.fen]; show ¬ (0 : Int) < 0; omega⟩
  have hfit : fitsP D' 2 0 = true := by
    unfold fitsP
    rw [hcalm.plain, hh.len, decide_eq_true hlen]
    rfl
  -- nothing to finish
  have quiet : intentL D' = [] → ∃ F, openP D' 2 0 = (F, 0) ∧ Sick F I H := fun hi => by
    have hs := sick_of h hh (Nat.le_refl 1) hi
    refine ⟨D', ?_, hs⟩
    unfold openP
    rw [hs.finD, if_neg (by rw [hfit]; simp), if_neg (by simp), if_neg (by rw [htop]; simp)]
  by_cases h33 : 33 ∈ H
  · rcases hh.inn 33 h33 with ⟨k, m, hk, hm, he⟩ | ⟨_, ho⟩
    · refine quiet (noint_head D' ?_)
      unfold headI rawOf
      rw [hct, he, hc.head, if_neg (blank_harm k m hk hm)]
      rfl
    · rcases h.head _ ho with hb | ⟨l, v, hl, hent, hvN, hlast⟩
      · exact quiet (noint_blank D' (by rw [hct, hb]))
      · have hsay := head_says (E := D') hent.lim (by rw [hct, hl])
        have hv32 : v < 4294967296 := by omega
        by_cases hvn : v = I.N
        · obtain ⟨hsl, hen⟩ := hlast hvn
          by_cases hsH : ∃ j, j < l.length ∧ 34 + j ∈ H
          · -- an entry was harmed
            obtain ⟨j, hj, hjH⟩ := hsH
            refine quiet ?_
            have hno : okSlot D'.st.length (headI D').ver (slotI D' j) = false := by
              unfold slotI okSlot
              rw [hct, hsay.1]
              rcases hh.inn _ hjH with ⟨k, m, hk, hm, he⟩ | ⟨_, ho2⟩
              · rw [he, decide_eq_false]
                · rfl
                · obtain ⟨d, hd⟩ := hent.pack _ (List.getElem_mem hj)
                  exact damage_shut2 _ ((l[j].1 : Nat) : Int) _ k m (by rw [hsl j hj, hd]; exact okR_pack ..) hk hm
              · have hlt := h.olds (34 + j) (by omega) _ ho2
                rw [hsl j hj, ver_entry hent hv32 _ (List.getElem_mem hj)] at hlt
                have hne : numS ((D'.at (34 + j)).extract 128 132) ≠ nv v := fun e => by
                  unfold verN at hlt
                  rw [e, nv_toNat v hv32] at hlt
                  exact Nat.lt_irrefl _ hlt
                rw [beq_eq_false_iff_ne.2 hne]
                simp
            unfold intentL intentB slotsB
            rw [if_neg]
            intro h9
            simp only [Bool.and_eq_true, List.all_eq_true] at h9
            have := h9.2.1 (slotI D' j) (by
              unfold slotsD
              rw [hsay.2]
              exact List.mem_map.2 ⟨j, List.mem_range.2 hj, rfl⟩)
            rw [hno] at this
            cases this
          · -- the last list is done once more
            have hnsl : ∀ j, j < l.length → 34 + j ∉ H := fun j hj h9 => hsH ⟨j, hj, h9⟩
            have hent' : Entries D'.st.length l (nv v) := by rw [hh.len]; exact hent
            have hint := intent_of D' l (nv v) hent' (hh.pend.trans hc.pend) hl (fun j hj => by rw [hh.out _ (hnsl j hj), hsl j hj]) (fun _ => .inl (by rw [htop, hvn]))
            have hfu : D'.fuse = none := hh.fuse.trans hn.fuse
            have hpe : D'.pend = [] := hh.pend.trans hc.pend
            have hlow := hent'.low
            have r1 := runS_list 2 0 l D' hcalm hfu hpe hent'.lt
            have k1 := applyW_kept l D' hh.ok hent'.lt
            have hok1 : okW (applyW D' l) [(33, blankR)] := okW_one (by rw [k1.len]; omega) _ blankR_size
            have r2 := runS_list 2 0 [(33, blankR)] (applyW D' l) (hcalm.kept k1) (k1.fuse.trans hfu) (k1.pend.trans hpe) hok1
            have k2 := applyW_kept [(33, blankR)] (applyW D' l) k1.ok hok1
            have hne : intentL D' ≠ [] := by
              rw [hint]
              intro h9
              have h8 := congrArg List.length h9
              unfold wlI at h8
              rw [List.length_map, List.length_nil] at h8
              have := hent.pos
              omega
            have hat : ∀ i, (applyW (applyW D' l) [(33, blankR)]).at i = if i = 33 then blankR else (lastE l i).getD (D'.at i) := fun i => by
              rw [one_at (applyW D' l) 33 blankR hok1 i, applyW_at l D' hent'.lt i]
            have hfin : finD D' 2 0 = (applyW (applyW D' l) [(33, blankR)], true, 0) := by
              unfold finD
              rw [if_neg (by rw [hcalm.live]; simp), if_neg hne, hint, complS_is, runS_app, r1, if_pos rfl, r2]
              rfl
            have hpl : ∀ i s, lastE l i = some s → D.at i = s := fun i s hs => hen (i, s) (lastE_mem l i s hs)
            have hnz : ∀ i, 33 ≤ i → i < 131 → lastE l i = none := fun i h1 h2 => lastE_none _ _ (fun e hm hq => by rcases hent.place e hm with h9 | h9 <;> omega)
            have hlen2 : (applyW (applyW D' l) [(33, blankR)]).st.length = D.st.length := k2.len.trans (k1.len.trans hh.len)
            obtain ⟨F, hF⟩ : ∃ F, applyW (applyW D' l) [(33, blankR)] = F := ⟨_, rfl⟩
            rw [hF] at k2 hat hfin hlen2
            have hpend : F.pend = [] := k2.pend.trans (k1.pend.trans hpe)
            have hFc : ∀ i, F.content i = F.at i := fun i => by unfold Dev.content; rw [hpend]; rfl
            have hnoi : intentL F = [] := noint_blank F (by rw [hFc, hat, if_pos rfl])
            have h0F : F.at 0 = I.topR := by
              rw [hat, if_neg (by omega)]
              cases hq : lastE l 0 with
              | some s => show s = _; rw [← hpl 0 s hq, hc.top]
              | none => exact htopat
            have hsick : Sick F I H := by
              refine ⟨k2.ok, hc.img, hlen2.trans hc.len, k2.failed.trans (k1.failed.trans hcalm.live), hpend, hnoi, h0F, fun k hk => ?_, fun i hi => ?_⟩
              · rw [hat, if_neg (by omega)]
                cases hq : lastE l (1 + k) with
                | some s => left; show s = _; rw [← hpl _ s hq, hc.map k hk]
                | none =>
                  show D'.at (1 + k) = _ ∨ (_ ∧ badR _ _ (D'.at (1 + k)))
                  by_cases hin : 1 + k ∈ H
                  · exact .inr ⟨hin, harmed_bad h hh hin (by omega) (hc.map k hk) (verN_map hc.toHolds k hk)⟩
                  · exact .inl (by rw [hh.out _ hin, hc.map k hk])
              · rw [hat, if_neg (by omega)]
                cases hq : lastE l (131 + i) with
                | some s => left; show s = _; rw [← hpl _ s hq, hc.dat i hi]
                | none =>
                  show D'.at (131 + i) = _ ∨ (_ ∧ badR _ _ (D'.at (131 + i)))
                  by_cases hin : 131 + i ∈ H
                  · exact .inr ⟨hin, harmed_bad h hh hin (by omega) (hc.dat i hi) (verN_dat hc.toHolds i hi)⟩
                  · exact .inl (by rw [hh.out _ hin, hc.dat i hi])
            refine ⟨F, ?_, hsick⟩
            unfold openP
            rw [hfin, if_neg (by rw [hfit]; simp), if_neg (by simp), if_neg (by rw [hsick.topI]; simp)]
        · -- an older list
          refine quiet ?_
          unfold intentL intentB topB
          rw [if_neg]
          intro h9
          simp only [Bool.and_eq_true] at h9
          have ht := h9.2.2.2
          rw [htop, hsay.1] at ht
          simp only [Bool.or_eq_true, Bool.not_eq_true', beq_iff_eq, decide_eq_true_eq] at ht
          rcases ht with (ht | ht) | ht
          · cases ht
          · exact hvn (nv_inj hv32 (by omega) ht)
          · rw [nv_toNat v hv32, nv_toNat I.N (by omega)] at ht
            omega
  · exact quiet (noint_blank D' (by rw [hct, hh.out 33 h33, hc.head]))
end Go.Proofs.Ytbddelefglhaaaa
namespace Go.Proofs.Ytbddelefglhaaaa
set_option linter.unusedVariables false
set_option linter.unusedSimpArgs false
set_option linter.unusedSectionVars false
open Go.RowKit
attribute [local go_sem ↓] Go.wp_at_zero Go.wp_at_succ
def hC (h : HarmD) : List Value := [.int .u16 (h.raw : Int), .int .u16 (h.at_ : Int), .int .u8 (h.mask : Int), .int .u8 (h.back : Int)]
instance : Inhabited HarmD := ⟨⟨0, 0, 0, 0⟩⟩
def HarmsAt (w : World) (B : Nat) (A : Option Addr) (hs : List HarmD) : Prop := (∀ h ∈ hs, h.ok) ∧ ListAt w B 4 A (hs.map hC)
theorem HarmsAt.on {w w' : World} {A : Option Addr} {hs : List HarmD} (h : HarmsAt w w.heap.size A hs) (hg : Grew w w') : HarmsAt w' w'.heap.size A hs := ⟨h.1, (h.2.keep (Nat.le_refl _) hg).mono hg.size⟩
theorem harm_at {w : World} {B : Nat} {A : Option Addr} {hs : List HarmD} (h : HarmsAt w B A hs) {k : Nat} (hk : k < hs.length) :
    ∃ b off, A = some ⟨b, off, none⟩ ∧ b < B ∧ w.cell? ⟨b, off + k * 4, none⟩ = some (.int .u16 (hs[k].raw : Int)) ∧ w.cell? ⟨b, off + k * 4 + 1, none⟩ = some (.int .u16 (hs[k].at_ : Int)) ∧ w.cell? ⟨b, off + k * 4 + 2, none⟩ = some (.int .u8 (hs[k].mask : Int)) ∧ w.cell? ⟨b, off + k * 4 + 3, none⟩ = some (.int .u8 (hs[k].back : Int)) := by
  obtain ⟨b, off, e, hb, hc⟩ := h.2 (by rw [List.length_map]; omega)
  have hj : (hs.map hC)[k]? = some (hC hs[k]) := by rw [List.getElem?_map, List.getElem?_eq_getElem hk]; rfl
  exact ⟨b, off, e, hb, by have := hc k _ hj 0 _ rfl; rwa [Nat.add_zero] at this, hc k _ hj 1 _ rfl, hc k _ hj 2 _ rfl, hc k _ hj 3 _ rfl⟩
def hF (H : List Nat) : Int → Option Value := seenF (H.map fun i : Nat => (i : Int))
theorem hF_cons (H : List Nat) (i : Nat) : ∀ b, upd (hF H) (i : Int) (some (.bool true)) b = hF (i :: H) b := by
  intro b
  unfold hF seenF
  rw [List.map_cons]
  by_cases h : b = (i : Int)
  · subst h; rw [upd_same, if_pos (List.mem_cons_self ..)]
  · rw [upd_other _ _ h]
    by_cases h2 : b ∈ H.map fun i : Nat => (i : Int)
    · rw [if_pos h2, if_pos (List.mem_cons_of_mem _ h2)]
    · rw [if_neg h2, if_neg (fun h9 => (List.mem_cons.1 h9).elim h h2)]
theorem hF_in {H : List Nat} {i : Nat} (h : i ∈ H) : hF H (i : Int) = some (.bool true) := if_pos (List.mem_map.2 ⟨i, h, rfl⟩)
theorem hF_out {H : List Nat} {i : Nat} (h : i ∉ H) : hF H (i : Int) = none := if_neg (fun h9 => by
  obtain ⟨j, hj, e⟩ := List.mem_map.1 h9
  have e2 : j = i := by omega
  exact h (e2 ▸ hj))
theorem harm1_errs {first last : Nat} {dmg : Bool} {D : Dev} (hr : first ≤ last) (hl : last < D.st.length) {p : Dev × List Nat} (hp : Harmed first last dmg D p.1 p.2) (h : HarmD) (hok : h.ok) :
    (0 < earlierD p.1 (h.sec first last : Nat) → (returnD p.1 (h.sec first last : Nat) (1 + ((h.back % earlierD p.1 (h.sec first last : Nat) : Nat) : Int))).2 = 0) ∧ (damageD p.1 (h.sec first last : Nat) ((h.at_ % 140 : Nat) : Int) h.bits).2 = 0 := by
  have hb : first ≤ h.sec first last ∧ h.sec first last ≤ last := by
    unfold HarmD.sec
    have := Nat.mod_lt h.raw (show last - first + 1 > 0 by omega)
    omega
  have hth : thereD p.1 (h.sec first last : Nat) = true := by
    unfold thereD
    exact decide_eq_true ⟨by omega, by rw [hp.len]; omega⟩
  constructor
  · intro h0
    have he : earlierD p.1 (h.sec first last : Nat) = (p.1.olds (h.sec first last)).length := by unfold earlierD; rw [if_pos hth, Int.toNat_natCast]
    have hm := Nat.mod_lt h.back h0
    obtain ⟨b, hbk⟩ : ∃ b, h.back % earlierD p.1 (h.sec first last : Nat) = b := ⟨_, rfl⟩
    rw [hbk, he] at hm
    rw [hbk]
    unfold returnD
    rw [if_neg]
    rw [hth, Int.toNat_natCast]
    intro h9
    rcases h9 with h9 | h9 | h9
    · cases h9
    · omega
    · omega
  · have hk : h.at_ % 140 < 140 := Nat.mod_lt _ (by omega)
    unfold damageD
    rw [if_neg (by
      rw [hth]
      intro h9
      rcases h9 with h9 | h9 | h9
      · cases h9
      · omega
      · omega), if_neg (bits_ne h hok)]
theorem or_one (m : Nat) (hm : m < 256) : bits .or .u8 (m : Int) 1 = (((UInt8.ofNat (m ||| 1)).toNat : Nat) : Int) := by
  have key : ∀ x : Fin 256, bits .or .u8 (x.1 : Int) 1 = (((UInt8.ofNat (x.1 ||| 1)).toNat : Nat) : Int) := by decide +kernel
  exact key ⟨m, hm⟩
set_option maxRecDepth 100000 in
set_option maxHeartbeats 4000000 in
theorem harmL_any {w0 : World} {x : Nat} {D : Dev} {out : Nat → Prop} {W : World} (h : Live w0 x D out W) (first last : Nat) (hr : first ≤ last) (hll : last < D.st.length) (hl55 : D.st.length ≤ 1155) (dmg : Bool) (hs : List HarmD) (A : Option Addr) (c : Nat) (hat : HarmsAt w0 w0.heap.size A hs) (hn : hs.length ≤ 30) :
    Calls Try.prog 32 #[ptrV x, .slice A hs.length c, .int .i64 (first : Int), .int .i64 (last : Int), .bool dmg] W fun e w' => ∃ g D' H, e = .returned (.map (some g)) ∧ MapI w' g (hF H) ∧ harmP first last dmg D hs = (D', H) ∧ Live w0 x D' (fun q => out q ∨ q = g) w' ∧ Beside w0 out W w' ∧ Harmed first last dmg D D' H := by
  have hmm := @run_makeMap Try.prog
  have hg0 : Grew W (W.alloc (.map #[] 0)) := (Grew.refl W).alloc _
  have HM0 : Hid (MapI (W.alloc (.map #[] 0)) W.heap.size (hF [])) := Lib.hid ((MapIs.made _ rfl).congr (fun a => rfl))
  have HL0 := Lib.hid ((h.more hg0).few (out' := fun q => out q ∨ q = W.heap.size) (fun q hq => hq.elim .inl (fun h9 => .inr ⟨by omega, by rw [h9]; simp⟩)))
  have HB0 : Hid (Beside w0 out W (W.alloc (.map #[] 0))) := Lib.hid (hg0.turned _)
  have HR0 := Lib.hid (Harmed.refl first last dmg h.ok)
  have HDO := Lib.hid h.ok
  have HAT := Lib.hid hat
  have HW0 := Lib.hid h.base.size
  obtain ⟨m, hm⟩ : ∃ m, last - first = m := ⟨_, rfl⟩
  have hlast : last = first + m := by omega
  subst hlast
  have hmb : m ≤ 1154 ∧ first ≤ 1154 := by omega
  clear h hat hg0 hm hr
  go_enter Try.func32, Try.ntmps32
  go_wp2_with fail
  clear hmm
  go_loopg [19] hs.length (fun gk i' wr => ∃ (k : Nat) (D1 : Dev) (H1 : List Nat), k ≤ hs.length ∧ gk = hs.length - k ∧ i' = .int .i64 k ∧ harmP first (first + m) dmg D (hs.take k) = (D1, H1) ∧ Harmed first (first + m) dmg D D1 H1 ∧ MapI wr W.heap.size (hF H1) ∧ Live w0 x D1 (fun q => out q ∨ q = W.heap.size) wr ∧ Beside w0 out W wr)
  case atStart => exact ⟨0, D, [], by omega, by omega, rfl, rfl, HR0.out, HM0.out, HL0.out, HB0.out⟩
  case round =>
    obtain ⟨k, D1, H1, hk, hgk, rfl, hp, hh, hm1, hl1, hb1⟩ := hrel
    have HGK := Lib.hid hgk
    have HP := Lib.hid hp
    have HH := Lib.hid hh
    have HM := Lib.hid hm1
    have HL := Lib.hid hl1
    have HB := Lib.hid hb1
    clear hgk hp hh hm1 hl1 hb1
    by_cases hlt : k < hs.length
    · have hkk : (k : Int) < (hs.length : Int) := by omega
      have hka := HAT.out.2.keep (Nat.le_refl _) HL.out.base
      obtain ⟨b, off, rfl, hbb, c0, c1, c2, c3⟩ := harm_at ⟨HAT.out.1, hka⟩ hlt
      have hgw : w0.heap.size ≤ wr.heap.size := HL.out.base.size
      have hok := HAT.out.1 _ (List.getElem_mem hlt)
      have hstep := harmP_step first (first + m) dmg D hs k hlt
      rw [HP.out] at hstep
      have h1ok := harm1_ok HDO.out (Nat.le_add_right first m) hll (p := (D1, H1)) HH.out hs[k] hok
      obtain ⟨r, hrr⟩ : ∃ r : Nat, hs[k].raw % (m + 1) = r := ⟨_, rfl⟩
      have hsec : hs[k].sec first (first + m) = first + r := by
        unfold HarmD.sec
        rw [show first + m - first + 1 = m + 1 from by omega, hrr]
      have hrb : r ≤ m := by have := Nat.mod_lt hs[k].raw (show m + 1 > 0 by omega); omega
      obtain ⟨⟨r1, r2, r3, r4⟩, he⟩ : ∃ e, hs[k] = e := ⟨_, rfl⟩
      rw [he] at c0 c1 c2 c3 hok hstep h1ok hsec hrr
      simp only at c0 c1 c2 c3 hrr
      obtain ⟨k1, k2, k3, k4⟩ := hok
      simp only at k1 k2 k3 k4
      have htm : Int.tmod (r1 : Int) ((m : Int) + 1) = (r : Int) := by rw [Int.tmod_eq_emod_of_nonneg (by omega), ← hrr, Int.natCast_emod]; rfl
      have hw1 : IntKind.i64.wrap (r1 : Int) = (r1 : Int) := IntWalk.i64_in _ (by omega)
      have hw2 : IntKind.i64.wrap (r : Int) = (r : Int) := IntWalk.i64_in _ (by omega)
      have hws : ((first + m : Nat) : Int) - (first : Int) = (m : Int) := by omega
      have hm0 : (m : Int) + 1 ≠ 0 := by omega
      have hmod : (r1 : Int) % ((first : Int) + (m : Int) - (first : Int) + 1) = (r : Int) := by rw [show (first : Int) + (m : Int) - (first : Int) + 1 = (m : Int) + 1 from by omega, ← hrr, Int.natCast_emod]; rfl
      have herr := harm1_errs (Nat.le_add_right first m) hll (p := (D1, H1)) HH.out ⟨r1, r2, r3, r4⟩ ⟨k1, k2, k3, k4⟩
      unfold harm1 at hstep h1ok
      rw [hsec] at hstep h1ok herr
      simp only at hstep h1ok herr
      have hsi : ((first + r : Nat) : Int) = (first : Int) + (r : Int) := by omega
      rw [hsi] at hstep h1ok herr
      obtain ⟨hg1, hg2⟩ : Grew wr (wr.alloc (.cells #[.int .u16 (r1 : Int), .int .u16 (r2 : Int), .int .u8 (r3 : Int), .int .u8 (r4 : Int)] 122)) ∧ True := ⟨(Grew.refl wr).alloc _, trivial⟩
      have hm2 := HM.out.alloc (.cells #[.int .u16 (r1 : Int), .int .u16 (r2 : Int), .int .u8 (r3 : Int), .int .u8 (r4 : Int)] 122)
      obtain ⟨kl, hkl⟩ := int_key ((first : Int) + (r : Int)) (by unfold okI; omega)
      have hlk := hm2.lookup_val int_keyedI intV_inj Try.underlying61 (zero_bool4 _) ((first : Int) + (r : Int)) hkl
      have HST := Lib.hid hstep
      have H1O := Lib.hid h1ok
      have HER := Lib.hid herr
      have HM2 := Lib.hid hm2
      have HKL := Lib.hid hkl
      have hrbb : r ≤ 1154 := by omega
      have hbk := (Blk.new wr 122 #[.int .u16 (r1 : Int), .int .u16 (r2 : Int), .int .u8 (r3 : Int), .int .u8 (r4 : Int)] rfl)
      clear hstep h1ok herr he hka hrr hsec
      by_cases hin : first + r ∈ H1
      · rw [show hF H1 ((first : Int) + (r : Int)) = some (.bool true) from by rw [← hsi]; exact hF_in hin, Option.getD_some] at hlk
        have HIN := Lib.hid hin
        clear hin hbk hm2 hkl
        go_wp2_with fail
        go_roundg (hs.length - (k + 1))
        case measure => rw [HGK.out]; omega
        case rel => exact ⟨k + 1, D1, H1, by omega, by omega, by go_num, by rw [HST.out, if_pos HIN.out], HH.out, HM2.out, HL.out.grew hg1, HB.out.andGrew hg1⟩
      · rw [show hF H1 ((first : Int) + (r : Int)) = none from by rw [← hsi]; exact hF_out hin, Option.getD_none] at hlk
        have HIN := Lib.hid hin
        have HOL := Lib.hid (old_live (HL.out.grew hg1) ((first : Int) + (r : Int)))
        obtain ⟨od, hod⟩ : ∃ od, earlierD D1 ((first : Int) + (r : Int)) = od := ⟨_, rfl⟩
        rw [hod] at HOL HER HST H1O
        clear hin hm2 hkl
        by_cases hcond : dmg = false ∧ r3 % 2 = 0 ∧ 0 < od
        · obtain ⟨hd, hr3, hod0⟩ := hcond
          subst hd
          have hst := HST.out
          have hh1 := H1O.out.1
          rw [if_neg HIN.out, if_pos ⟨rfl, hr3, hod0⟩] at hst hh1
          have hre := HER.out.1 hod0
          obtain ⟨bb, hbb2⟩ : ∃ bb : Nat, r4 % od = bb := ⟨_, rfl⟩
          have hbod : bb < od := by rw [← hbb2]; exact Nat.mod_lt _ hod0
          have hod8 : od ≤ 8 := by
            rw [← hod]
            unfold earlierD
            split
            · have := olds_len HH.out.ok ((first : Int) + (r : Int)).toNat
              exact this
            · exact Nat.zero_le _
          rw [hbb2] at hst hh1 hre
          obtain ⟨⟨D2, er⟩, hD2⟩ : ∃ p, returnD D1 ((first : Int) + (r : Int)) (1 + (bb : Int)) = p := ⟨_, rfl⟩
          have HRL := Lib.hid (return_live (HL.out.grew hg1) ((first : Int) + (r : Int)) (1 + (bb : Int)) (by unfold okI; omega) (by unfold okI; omega))
          rw [hD2] at hst hh1 hre HRL
          have hre0 : er = 0 := hre
          subst hre0
          have hq1 : ((r3 : Int) % 2 == 0) = true := by rw [beq_iff_eq]; omega
          have hq2 : (od : Int) > 0 := by omega
          have hq3 : (r4 : Int) % (od : Int) = (bb : Int) := by rw [← hbb2, Int.natCast_emod]
          have hq4 : (od : Int) ≠ 0 := by omega
          have hq5 : decide ((0 : Int) < (od : Int)) = true := decide_eq_true (by omega)
          have HS2 := Lib.hid hst
          have HH2 := Lib.hid hh1
          clear hst hh1 hre hbb2 hod hD2 hr3 hod0
          go_wp2_with fail
          refine HOL.out.mono ?_
          rintro e w2 ⟨rfl, rfl⟩
          go_wp2_with fail
          refine HRL.out.mono ?_
          rintro e w3 ⟨rfl, hl3, hb3⟩
          have hm3 := HM2.out.turned hb3 (fun h9 => h9.2 (.inr rfl))
          have HM3 := Lib.hid hm3
          have HL3 := Lib.hid hl3
          have HB3 := Lib.hid (Beside.andThen (HB.out.andGrew hg1) hb3 (fun q hq => .inl hq))
          clear hm3 hl3 hb3
          go_wp2_with (refine wpList_mapUpdate_is rfl _ _ _ 61 rfl 4 int_keyedI intV_inj Try.underlying61 rfl HM3.out ((first : Int) + (r : Int)) HKL.out (.bool true) rfl rfl ?_; intro w4 hm4 ht4; have HM4 := Lib.hid hm4; have HT4 := Lib.hid ht4; clear hm4 ht4)
          go_roundg (hs.length - (k + 1))
          case measure => rw [HGK.out]; omega
          case rel => exact ⟨k + 1, D2, (first + r) :: H1, by omega, by omega, by go_num, HS2.out, HH2.out, HM4.out.congr (fun a => by rw [← hsi]; exact hF_cons H1 (first + r) a), HL3.out.turn1 (.inr rfl) HW0.out HT4.out, HB3.out.next HT4.out (fun q hq h9 => by omega)⟩
        · have hst := HST.out
          have hh1 := H1O.out.1
          rw [if_neg HIN.out, if_neg hcond] at hst hh1
          have hde := HER.out.2
          obtain ⟨aa, haa⟩ : ∃ aa : Nat, r2 % 140 = aa := ⟨_, rfl⟩
          have haab : aa < 140 := by rw [← haa]; exact Nat.mod_lt _ (by omega)
          obtain ⟨mb, hmbb⟩ : ∃ mb : UInt8, UInt8.ofNat (r3 ||| 1) = mb := ⟨_, rfl⟩
          have hor := or_one r3 k3
          rw [hmbb] at hor
          have hmb2 : (⟨r1, r2, r3, r4⟩ : HarmD).bits = mb := hmbb
          rw [haa, hmb2] at hst hh1 hde
          obtain ⟨⟨D2, er⟩, hD2⟩ : ∃ p, damageD D1 ((first : Int) + (r : Int)) (aa : Int) mb = p := ⟨_, rfl⟩
          have HRL := Lib.hid (damage_live (HL.out.grew hg1) ((first : Int) + (r : Int)) (aa : Int) mb (by unfold okI; omega) (by unfold okI; omega))
          rw [hD2] at hst hh1 hde HRL
          have hde0 : er = 0 := hde
          subst hde0
          have hq9 : (r2 : Int) % 140 = (aa : Int) := by rw [← haa, Int.natCast_emod]; rfl
          have hcs : dmg = true ∨ (dmg = false ∧ ((r3 : Int) % 2 == 0) = false) ∨ (dmg = false ∧ ((r3 : Int) % 2 == 0) = true ∧ decide ((0 : Int) < (od : Int)) = false ∧ ¬ (od : Int) > 0) := by
            cases dmg with
            | true => exact .inl rfl
            | false =>
              by_cases hr3 : r3 % 2 = 0
              · have : ¬ 0 < od := fun h9 => hcond ⟨rfl, hr3, h9⟩
                exact .inr (.inr ⟨rfl, by rw [beq_iff_eq]; omega, decide_eq_false (by omega), by omega⟩)
              · exact .inr (.inl ⟨rfl, by rw [beq_eq_false_iff_ne]; omega⟩)
          have HS2 := Lib.hid hst
          have HH2 := Lib.hid hh1
          clear hst hh1 hde haa hod hD2 hcond hmbb hmb2
          rcases hcs with hd | ⟨hd, hq1⟩ | ⟨hd, hq1, hq2, hq3⟩
          all_goals
            subst hd
            go_wp2_with fail
            refine HOL.out.mono ?_
            rintro e w2 ⟨rfl, rfl⟩
            go_wp2_with fail
            refine HRL.out.mono ?_
            rintro e w3 ⟨rfl, hl3, hb3⟩
            have hm3 := HM2.out.turned hb3 (fun h9 => h9.2 (.inr rfl))
            have HM3 := Lib.hid hm3
            have HL3 := Lib.hid hl3
            have HB3 := Lib.hid (Beside.andThen (HB.out.andGrew hg1) hb3 (fun q hq => .inl hq))
            clear hm3 hl3 hb3
            go_wp2_with (refine wpList_mapUpdate_is rfl _ _ _ 61 rfl 4 int_keyedI intV_inj Try.underlying61 rfl HM3.out ((first : Int) + (r : Int)) HKL.out (.bool true) rfl rfl ?_; intro w4 hm4 ht4; have HM4 := Lib.hid hm4; have HT4 := Lib.hid ht4; clear hm4 ht4)
            go_roundg (hs.length - (k + 1))
            case measure => rw [HGK.out]; omega
            case rel => exact ⟨k + 1, D2, (first + r) :: H1, by omega, by omega, by go_num, HS2.out, HH2.out, HM4.out.congr (fun a => by rw [← hsi]; exact hF_cons H1 (first + r) a), HL3.out.turn1 (.inr rfl) HW0.out HT4.out, HB3.out.next HT4.out (fun q hq h9 => by omega)⟩
    · obtain rfl : k = hs.length := by omega
      have HE := HP
      rw [List.take_of_length_le (Nat.le_refl _)] at HE
      go_wp2_with fail
      go_ret
      exact ⟨_, D1, H1, rfl, HM.out, HE.out, HL.out, HB.out, HH.out⟩
end Go.Proofs.Ytbddelefglhaaaa
