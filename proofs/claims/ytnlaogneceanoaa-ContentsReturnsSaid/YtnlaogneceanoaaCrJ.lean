/- Chapter 8: what Load makes of sectors, plain. Chapter 8: writing the changes over the sectors, plain. Chapter 8: one more label behind a list of labels. Chapter 8: Extend and Release of chapter 6, once more: what they return is new. Chapter 8: what the changes do with a label. Chapter 8: what Replace and Confirm do with a label. Chapter 8: what Confirm does with a label. A slice of the call's own, cut to its first elements; 'clear' on the others. Chapter 8: change, and the changes of one label. -/
import Derived.Laws.CopyRow
import Derived.Test.YtnlaogneceanoaaCrA
import Derived.Test.YtnlaogneceanoaaCrB
import Derived.Test.YtnlaogneceanoaaCrH
import Derived.Test.YtnlaogneceanoaaCrI
namespace Go.Proofs.Ytnlaogneceanoaa
set_option linter.unusedVariables false
set_option linter.unusedSimpArgs false
set_option linter.unusedSectionVars false
open Go.RowKit
theorem catS_app (a b : List ByteArray) : catS (a ++ b) = catS a ++ catS b := by
  induction a with
  | nil => exact ByteArray.empty_append.symm
  | cons x a ih => rw [List.cons_append, catS_cons, catS_cons, ih, ByteArray.append_assoc]
/-- The tracks behind k sectors, and the same with one for the next sector. -/
def trkL (ss : List ByteArray) (k : Nat) : List ByteArray := (List.range ((k + 7) / 8)).map fun n => trkS (ss.take k) n
def trkY (ss : List ByteArray) (k : Nat) : List ByteArray := (List.range (k / 8 + 1)).map fun n => trkS (ss.take k) n
theorem trkL_len (ss : List ByteArray) (k : Nat) : (trkL ss k).length = (k + 7) / 8 := by unfold trkL; simp
theorem trkY_len (ss : List ByteArray) (k : Nat) : (trkY ss k).length = k / 8 + 1 := by unfold trkY; simp
theorem trkL_get (ss : List ByteArray) (k i : Nat) (h : i < (trkL ss k).length) : (trkL ss k)[i] = trkS (ss.take k) i := by simp [trkL]
theorem trkY_get (ss : List ByteArray) (k i : Nat) (h : i < (trkY ss k).length) : (trkY ss k)[i] = trkS (ss.take k) i := by simp [trkY]
theorem trkS_take (ss : List ByteArray) (k n : Nat) : trkS (ss.take k) n = catS ((ss.drop (8 * n)).take (min 8 (k - 8 * n))) := by
  unfold trkS
  rw [List.drop_take, List.take_take]
theorem trkY_new (ss : List ByteArray) (k : Nat) (h : k % 8 = 0) : trkY ss k = trkL ss k ++ [⟨#[]⟩] := by
  unfold trkY trkL
  have e : (k + 7) / 8 = k / 8 := by omega
  rw [e, List.range_succ, List.map_append, List.map_cons, List.map_nil, trkS_take]
  have e2 : min 8 (k - 8 * (k / 8)) = 0 := by omega
  rw [e2, List.take_zero, catS_nil]
theorem trkY_old (ss : List ByteArray) (k : Nat) (h : ¬ k % 8 = 0) : trkY ss k = trkL ss k := by
  unfold trkY trkL
  have e : (k + 7) / 8 = k / 8 + 1 := by omega
  rw [e]
theorem trkL_next (ss : List ByteArray) (k : Nat) (hk : k < ss.length) (h : k / 8 < (trkY ss k).length) : trkL ss (k + 1) = (trkY ss k).set (k / 8) ((trkY ss k)[k / 8] ++ ss[k]) := by
  refine List.ext_getElem (by rw [List.length_set, trkL_len, trkY_len]; omega) (fun i h1 h2 => ?_)
  rw [trkL_len] at h1
  rw [List.getElem_set]
  by_cases hi : k / 8 = i
  · subst hi
    rw [if_pos rfl]
    rw [trkL_get, trkY_get, trkS_take, trkS_take]
    have e1 : min 8 (k + 1 - 8 * (k / 8)) = (k - 8 * (k / 8)) + 1 := by omega
    have e2 : min 8 (k - 8 * (k / 8)) = k - 8 * (k / 8) := by omega
    rw [e1, e2, List.take_succ_eq_append_getElem (by rw [List.length_drop]; omega), catS_snoc, List.getElem_drop]
    congr 2
    omega
  · rw [if_neg hi]
    rw [trkL_get, trkY_get, trkS_take, trkS_take]
    have e1 : min 8 (k + 1 - 8 * i) = 8 := by omega
    have e2 : min 8 (k - 8 * i) = 8 := by omega
    rw [e1, e2]
theorem trkL_all (ss : List ByteArray) (m : Nat) (h : ss.length = 8 * m) : trkL ss ss.length = (List.range m).map (trkS ss) := by
  unfold trkL
  rw [List.take_length]
  congr 2
  omega
theorem trkY_size (ss : List ByteArray) (k : Nat) (h : ∀ x ∈ ss, x.size ≤ 1000) : ∀ y ∈ trkY ss k, y.size ≤ 8000 := by
  intro y hy
  unfold trkY at hy
  obtain ⟨n, _, rfl⟩ := List.mem_map.1 hy
  exact trkS_size 1000 _ n (fun x hx => h x (List.mem_of_mem_take hx))
theorem body_cat (ss : List ByteArray) (n : ByteArray) (t : Int) (ls : List Lab) (hh : headS n t = trkS ss 0) (hd : ∀ k (hk : k < ls.length), encS ls[k] t = trkS ss (k + 1)) :
    ∀ k, k ≤ ls.length → bodyS ⟨n, t, ls⟩ k = catS (ss.take (8 * (k + 1))) := by
  intro k
  induction k with
  | zero => intro _; rw [bodyS_zero]; show headS n t = _; rw [hh]; unfold trkS; simp
  | succ k ih =>
    intro hk
    rw [bodyS_next ⟨n, t, ls⟩ k hk, ih (by omega)]
    show _ ++ encS ls[k] t = _
    rw [hd k hk]
    unfold trkS
    rw [← catS_app]
    congr 1
    have e : 8 * (k + 1 + 1) = 8 * (k + 1) + 8 := by omega
    rw [e, List.take_add]
theorem load_ok (ss : List ByteArray) (n : ByteArray) (t : Int) (ls : List Lab) (h128 : ∀ x ∈ ss, x.size = 128) (hlen : ss.length = 8 * (ls.length + 1)) (hh : headP (trkS ss 0) = (n, t, 0))
    (hd : ∀ k (hk : k < ls.length), decP (trkS ss (k + 1)) t = (ls[k], 0)) (hv : validT ⟨n, t, ls⟩ = true) : SecOf ss ⟨n, t, ls⟩ := by
  refine ⟨hv, ?_⟩
  have h1 : headS n t = trkS ss 0 := by
    rcases head_strict (trkS ss 0) with h | ⟨n', t', h, g, _⟩
    · rw [hh] at h; exact absurd (congrArg (fun x => x.2.2) h) (by decide : ¬ ((0 : Int) = 11))
    · rw [hh] at h
      injection h with h2 h3
      injection h3 with h3 _
      rw [h2, h3]; exact g
  have h2 : ∀ k (hk : k < ls.length), encS ls[k] t = trkS ss (k + 1) := fun k hk => by
    rcases dec_strict_lab (trkS ss (k + 1)) t with ⟨_, h⟩ | h
    · rw [hd k hk] at h; exact h
    · rw [hd k hk] at h; exact absurd (congrArg (fun x => x.2) h) (by decide : ¬ ((0 : Int) = 11))
  unfold secT
  rw [if_pos hv, body_cat ss n t ls h1 h2 _ (Nat.le_refl _)]
  show cutS (catS (ss.take (8 * (ls.length + 1)))) = ss
  rw [← hlen, List.take_length, cut_cat ss h128]
theorem SecOf.is {ss : List ByteArray} {U : Tab} (h : SecOf ss U) {n : ByteArray} {t : Int} {ls : List Lab} (hh : headP (trkS ss 0) = (n, t, 0)) (hl : (ls.length : Int) = slotsS t)
    (hd : ∀ k (hk : k < ls.length), decP (trkS ss (k + 1)) t = (ls[k], 0)) : U = ⟨n, t, ls⟩ := by
  have e := h.head.symm.trans hh
  injection e with e1 e2
  injection e2 with e2 e3
  have hU := ((validT_iff U).1 h.1).len
  rw [e2] at hU
  have hl2 : U.labels.length = ls.length := by omega
  have hL : U.labels = ls := by
    refine List.ext_getElem hl2 (fun k h1 h2 => ?_)
    have p1 := h.lab k h1
    rw [e2] at p1
    exact congrArg Prod.fst (p1.symm.trans (hd k h2))
  cases U
  simp only at e1 e2 hL
  rw [e1, e2, hL]
theorem LdS.no {ss : List ByteArray} (h : ∀ U, SecOf ss U → False) : LdS ss tabZ 11 := .inr ⟨h, rfl, rfl⟩
theorem ld_128 (ss : List ByteArray) (k : Nat) (hk : k < ss.length) (h : ¬ ss[k].size = 128) : LdS ss tabZ 11 := LdS.no fun U hU => h ((sec_facts U hU.1 ss hU.2).2.1 _ (List.getElem_mem hk))
theorem ld_len (ss : List ByteArray) (h : ss.length = 0 ∨ ¬ ss.length % 8 = 0) : LdS ss tabZ 11 := LdS.no fun U hU => by have := (sec_facts U hU.1 ss hU.2).1; omega
theorem ld_head (ss : List ByteArray) (h : headP (trkS ss 0) = (⟨#[]⟩, 0, 11)) : LdS ss tabZ 11 := LdS.no fun U hU => by
  have e := hU.head
  rw [h] at e
  exact absurd (congrArg (fun x => x.2.2) e) (by decide : ¬ ((11 : Int) = 0))
theorem slots_len (U : Tab) (h : validT U = true) : (U.labels.length : Int) + 1 = ttS U.tracks := by
  have h1 := ((validT_iff U).1 h).len
  have h2 := ((validT_iff U).1 h).tr
  have h3 := okT_true h2
  unfold slotsS at h1
  unfold ttS at h1 ⊢
  rw [if_pos h2] at h1 ⊢
  omega
theorem ld_table (ss : List ByteArray) (n : ByteArray) (t : Int) (hh : headP (trkS ss 0) = (n, t, 0)) (h : ¬ ((ss.length / 8 : Nat) : Int) = ttS t) : LdS ss tabZ 11 := LdS.no fun U hU => by
  have e := hU.head.symm.trans hh
  have h1 := slots_len U hU.1
  have et : U.tracks = t := congrArg (fun x => x.2.1) e
  rw [et] at h1
  have h2 := (sec_facts U hU.1 ss hU.2).1
  omega
theorem ld_dec (ss : List ByteArray) (n : ByteArray) (t : Int) (hh : headP (trkS ss 0) = (n, t, 0)) (k : Nat) (hk : (k : Int) + 1 < ttS t) (h : decP (trkS ss (k + 1)) t = (labZ, 11)) : LdS ss tabZ 11 := LdS.no fun U hU => by
  have e := hU.head.symm.trans hh
  have et : U.tracks = t := congrArg (fun x => x.2.1) e
  have h1 := slots_len U hU.1
  rw [et] at h1
  have h2 := hU.lab k (by omega)
  rw [et, h] at h2
  exact absurd (congrArg (fun x => x.2) h2) (by decide : ¬ ((11 : Int) = 0))
theorem ld_end (ss : List ByteArray) (n : ByteArray) (t : Int) (ls : List Lab) (hh : headP (trkS ss 0) = (n, t, 0)) (hl : (ls.length : Int) = slotsS t) (hd : ∀ k (hk : k < ls.length), decP (trkS ss (k + 1)) t = (ls[k], 0))
    (h : ¬ (validT ⟨n, t, ls⟩ = true ∧ secT ⟨n, t, ls⟩ = ss)) : LdS ss tabZ 11 := LdS.no fun U hU => by
  have e := hU.is hh hl hd
  subst e
  exact h hU
theorem dec_snoc {ss : List ByteArray} {t : Int} {ls : List Lab} {l : Lab} (h : ∀ j (hj : j < ls.length), decP (trkS ss (j + 1)) t = (ls[j], 0)) (hl : decP (trkS ss (ls.length + 1)) t = (l, 0)) :
    ∀ j (hj : j < (ls ++ [l]).length), decP (trkS ss (j + 1)) t = ((ls ++ [l])[j], 0) := by
  intro j hj
  rw [List.length_append, List.length_singleton] at hj
  by_cases hjl : j < ls.length
  · rw [List.getElem_append_left hjl]
    exact h j hjl
  · have e : j = ls.length := by omega
    subst e
    rw [List.getElem_append_right (Nat.le_refl _)]
    simpa using hl
theorem ext_snoc {ls : List Lab} {l : Lab} (h : ∀ x ∈ ls, x.ext.length ≤ 1000) (hl : l.ext.length ≤ 1000) : ∀ x ∈ ls ++ [l], x.ext.length ≤ 1000 := by
  intro x hx
  rcases List.mem_append.1 hx with hx | hx
  · exact h x hx
  · rw [List.mem_singleton.1 hx]; exact hl
end Go.Proofs.Ytnlaogneceanoaa
namespace Go.Proofs.Ytnlaogneceanoaa
set_option linter.unusedVariables false
set_option linter.unusedSimpArgs false
set_option linter.unusedSectionVars false
open Go.RowKit
/-- The indices at which two lists differ. -/
def idxD (X Y : List ByteArray) : List Nat := (List.range X.length).filter fun i => decide (X.getD i ⟨#[]⟩ ≠ Y.getD i ⟨#[]⟩)
def patchI (Y : List ByteArray) (J : List Nat) (X : List ByteArray) : List ByteArray := J.foldl (fun s i => s.set i (Y.getD i ⟨#[]⟩)) X
theorem diffP_idx (X Y : List ByteArray) : diffP X Y X.length = (idxD X Y).map fun (i : Nat) => ((i : Int), Y.getD i ⟨#[]⟩) := rfl
theorem patchI_len (Y : List ByteArray) (J : List Nat) : ∀ X, (patchI Y J X).length = X.length := by
  induction J with
  | nil => intro X; rfl
  | cons i J ih =>
    intro X
    show (patchI Y J (X.set i _)).length = _
    rw [ih, List.length_set]
theorem getD_set (X : List ByteArray) (i j : Nat) (y : ByteArray) (hi : i < X.length) : (X.set i y).getD j ⟨#[]⟩ = if i = j then y else X.getD j ⟨#[]⟩ := by
  rw [List.getD_eq_getElem?_getD, List.getD_eq_getElem?_getD, List.getElem?_set]
  by_cases h : i = j
  · subst h; rw [if_pos rfl, if_pos hi, if_pos rfl]; rfl
  · rw [if_neg h, if_neg h]
theorem patchI_get (Y : List ByteArray) (J : List Nat) : ∀ X, (∀ i ∈ J, i < X.length) → ∀ j, (patchI Y J X).getD j ⟨#[]⟩ = if j ∈ J then Y.getD j ⟨#[]⟩ else X.getD j ⟨#[]⟩ := by
  induction J with
  | nil => intro X _ j; rw [if_neg (by simp)]; rfl
  | cons i J ih =>
    intro X hX j
    show (patchI Y J (X.set i _)).getD j _ = _
    rw [ih _ (fun k hk => by rw [List.length_set]; exact hX k (List.mem_cons_of_mem _ hk)), getD_set _ _ _ _ (hX i (List.mem_cons_self ..))]
    by_cases hj : j ∈ J
    · rw [if_pos hj, if_pos (List.mem_cons_of_mem _ hj)]
    · rw [if_neg hj]
      by_cases hij : i = j
      · subst hij; rw [if_pos rfl, if_pos (List.mem_cons_self ..)]
      · rw [if_neg hij, if_neg (fun h => (List.mem_cons.1 h).elim (fun e => hij e.symm) hj)]
theorem idxD_mem (X Y : List ByteArray) (i : Nat) : i ∈ idxD X Y ↔ i < X.length ∧ X.getD i ⟨#[]⟩ ≠ Y.getD i ⟨#[]⟩ := by
  unfold idxD
  rw [List.mem_filter, List.mem_range, decide_eq_true_eq]
theorem patch_all (X Y : List ByteArray) (h : X.length = Y.length) : patchI Y (idxD X Y) X = Y := by
  refine List.ext_getElem (by rw [patchI_len]; exact h) (fun j h1 h2 => ?_)
  have e := patchI_get Y (idxD X Y) X (fun i hi => ((idxD_mem X Y i).1 hi).1) j
  rw [List.getD_eq_getElem?_getD, List.getElem?_eq_getElem h1] at e
  have hY : Y.getD j ⟨#[]⟩ = Y[j] := by rw [List.getD_eq_getElem?_getD, List.getElem?_eq_getElem h2]; rfl
  have e : (patchI Y (idxD X Y) X)[j] = _ := e
  rw [e]
  by_cases hj : j ∈ idxD X Y
  · rw [if_pos hj, hY]
  · rw [if_neg hj, ← hY]
    rw [patchI_len] at h1
    exact Decidable.not_not.1 (fun hne => hj ((idxD_mem X Y j).2 ⟨h1, hne⟩))
/-- The k-th change. -/
theorem patch_at (X Y : List ByteArray) (h : X.length = Y.length) (k : Nat) (hk : k < (idxD X Y).length) :
    ∃ i x y, (idxD X Y)[k] = i ∧ i < X.length ∧ x ≠ y ∧ (patchI Y ((idxD X Y).take k) X)[i]? = some x ∧ Y.getD i ⟨#[]⟩ = y ∧ patchI Y ((idxD X Y).take (k + 1)) X = (patchI Y ((idxD X Y).take k) X).set i y := by
  have hm := (idxD_mem X Y _).1 (List.getElem_mem hk)
  refine ⟨(idxD X Y)[k], X.getD (idxD X Y)[k] ⟨#[]⟩, Y.getD (idxD X Y)[k] ⟨#[]⟩, rfl, hm.1, hm.2, ?_, rfl, ?_⟩
  · have hl : (idxD X Y)[k] < (patchI Y ((idxD X Y).take k) X).length := by rw [patchI_len]; exact hm.1
    have e := patchI_get Y ((idxD X Y).take k) X (fun i hi => ((idxD_mem X Y i).1 (List.mem_of_mem_take hi)).1) (idxD X Y)[k]
    have hn : (idxD X Y)[k] ∉ (idxD X Y).take k := by
      have hd : (idxD X Y).Nodup := List.filter_sublist.nodup List.nodup_range
      intro hmem
      obtain ⟨j, hj, e2⟩ := List.getElem_of_mem hmem
      rw [List.length_take] at hj
      rw [List.getElem_take] at e2
      exact List.pairwise_iff_getElem.1 hd j k (by omega) hk (by omega) e2
    rw [if_neg hn, List.getD_eq_getElem?_getD, List.getElem?_eq_getElem hl] at e
    rw [List.getElem?_eq_getElem hl]
    exact congrArg some e
  · rw [List.take_succ_eq_append_getElem hk]
    unfold patchI
    rw [List.foldl_append]
    rfl
end Go.Proofs.Ytnlaogneceanoaa
namespace Go.Proofs.Ytnlaogneceanoaa
set_option linter.unusedVariables false
set_option linter.unusedSimpArgs false
set_option linter.unusedSectionVars false
open Go.RowKit
theorem grown_turned {W w' : World} {row : Option Nat} (h : W.grownBy w' row) : Turned (fun k => row = some k) W w' := ⟨h.os, h.tape, h.output, h.size, fun k hk hn => h.block k hk (fun e => hn e.symm)⟩
/-- One more label. -/
theorem TabO.push {W w' : World} {base : Nat} {v : Value} {ys : List LabE} {ls : List Lab} (h : TabO W base v ys ls) (y : LabE) {g n cap : Nat} (hown : OwnL w' base 24 5 (.slice (some ⟨g, 0, none⟩) n cap) (ys.map labC ++ [labC y]))
    (hgr : W.grownBy w' v.ownBlock) (hat : v.ownBlock = some g ∨ g = W.heap.size) (hy : LabAt W y.A y.c y.l) (hf : 0 < y.l.ext.length → ∀ b off, y.A = some ⟨b, off, none⟩ → v.ownBlock ≠ some b) :
    TabO w' base (.slice (some ⟨g, 0, none⟩) n cap) (ys ++ [y]) (ls ++ [y.l]) := by
  have hall : ∀ z ∈ ys ++ [y], LabAt W z.A z.c z.l ∧ (0 < z.l.ext.length → ∀ b off, z.A = some ⟨b, off, none⟩ → v.ownBlock ≠ some b) := fun z hz => by
    rcases List.mem_append.1 hz with hz | hz
    · exact ⟨h.lab z hz, h.far z hz⟩
    · rw [List.mem_singleton.1 hz]; exact ⟨hy, hf⟩
  refine ⟨by rw [List.map_append]; exact hown, fun z hz => ?_, fun z hz h0 b off e => ?_, by rw [List.map_append, h.eq]; rfl⟩
  · exact (hall z hz).1.turned (grown_turned hgr) (fun h0 b off e => (hall z hz).2 h0 b off e)
  · have hfb := (hall z hz).2 h0 b off e
    obtain ⟨b', off', e', hb', _⟩ := (hall z hz).1.runs.2 (by simpa using h0)
    rw [e] at e'
    injection e' with e'
    injection e' with e'
    subst e'
    intro e2
    have e3 : g = b := by simpa [Value.ownBlock] using e2
    rcases hat with hat | hat
    · exact hfb (by rw [hat, e3])
    · omega
theorem decP_pair (s : ByteArray) (t : Int) : (∃ l, decP s t = (l, 0) ∧ l.ext.length ≤ 1000) ∨ decP s t = (labZ, 11) := by
  unfold decP
  split
  · exact .inr rfl
  · split
    · exact .inl ⟨labZ, rfl, Nat.zero_le _⟩
    · split
      · rename_i h
        obtain ⟨_, _, ⟨_, v8⟩, _⟩ := valid_facts _ t h.1
        refine .inl ⟨rL 128 s, rfl, ?_⟩
        omega
      · exact .inr rfl
theorem small_zero : SmallT tabZ := ⟨by decide, fun l hl => by cases hl⟩
end Go.Proofs.Ytnlaogneceanoaa
namespace Go.Proofs.Ytnlaogneceanoaa
set_option linter.unusedVariables false
set_option linter.unusedSimpArgs false
set_option linter.unusedSectionVars false
open Go.RowKit
/-- Runs in a slice that is newer than w. -/
def NewRuns (w w' : World) (A : Option Addr) (c : Nat) (k : List (Int × Int)) : Prop := RunsAt w' w'.heap.size A k ∧ k.length ≤ c ∧ c ≤ 9223372036854775807 ∧ ∀ b off, A = some ⟨b, off, none⟩ → w.heap.size ≤ b
theorem NewRuns.nil (w w' : World) : NewRuns w w' none 0 [] := ⟨nil_runs w', Nat.le_refl _, by omega, fun b off e => by cases e⟩
theorem NewRuns.of_own {w w' : World} {v : Value} {l : List (Nat × Nat)} {k : List (Int × Int)} (h : OwnL w' w.heap.size 58 2 v (l.map rowN)) (hb : ∀ r ∈ l, r.1 + r.2 ≤ 128) (hk : ints l = k) : ∃ A c, v = .slice A k.length c ∧ NewRuns w w' A c k := by
  obtain ⟨A, c, hv, hr, h1, h2, h3⟩ := own_runs2 h (fun r hr => Nat.le_trans (hb r hr) (by omega))
  subst hk
  exact ⟨A, c, by rw [ints_len]; exact hv, hr, by rw [ints_len]; exact h1, h2, fun b off e => (h3 b off e).1⟩
section
variable {A : Option Addr} {c m : Nat} {l : List (Int × Int)} {w : World}
theorem alloc_new (hn : m = l.length) (hl : l.length ≤ 1000000) (hr : RunsAt w w.heap.size A l) (n : Int) (n0 : -9223372036854775808 ≤ n) (n1 : n ≤ 9223372036854775807) (most : Int) (k : List (Int × Int)) (er : Int) (hk : ints (allocS (memS l) n most).1 = k) (he : (allocS (memS l) n most).2 = er) :
    Calls Try.prog 66 #[.slice A m c, .int .i64 n, .int .i64 most] w fun e w' => ∃ A c, e = .returned (.tuple #[.slice A k.length c, .int .i64 er]) ∧ NewRuns w w' A c k ∧ Grew w w' := by
  subst hn; subst he
  refine (alloc_any A c l w w.heap.size (Nat.le_refl _) hl hr n n0 n1 most).mono ?_
  rintro e w1 ⟨v, rfl, hown, g1⟩
  obtain ⟨A', c', hv, hr'⟩ := NewRuns.of_own hown (alloc_bd _ _ _) hk
  exact ⟨A', c', by rw [hv], hr', g1⟩
theorem NewRuns.hold {w w1 w2 : World} {k : List (Int × Int)} (h : NewRuns w w1 A c k) (hg : Grew w1 w2) : NewRuns w w2 A c k := ⟨h.1.hold hg, h.2⟩
end
end Go.Proofs.Ytnlaogneceanoaa
namespace Go.Proofs.Ytnlaogneceanoaa
set_option linter.unusedVariables false
set_option linter.unusedSimpArgs false
set_option linter.unusedSectionVars false
open Go.RowKit
attribute [local go_sem ↓] Go.wp_at_zero Go.wp_at_succ
def chCon (T : Tab) (id : Int) (note : ByteArray) (k : Nat) (l : Lab) : List Lab × Int :=
  if l.unit = 0 then (T.labels, 9) else if 400 < note.size then (T.labels, 1)
  else ((if 0 ≤ idxT T id 0 then T.labels.set (idxT T id 0).toNat labZ else T.labels).set k { l with unit := 0, note := note }, 0)
def chgT (T : Tab) (id unit : Int) (F : Nat → Lab → List Lab × Int) : Tab × Int :=
  if validT T = true then
    if 0 ≤ idxT T id unit then
      (if (F (idxT T id unit).toNat (T.labels.getD (idxT T id unit).toNat labZ)).2 = 0 then ({ T with labels := (F (idxT T id unit).toNat (T.labels.getD (idxT T id unit).toNat labZ)).1 }, 0) else (tabZ, (F (idxT T id unit).toNat (T.labels.getD (idxT T id unit).toNat labZ)).2))
    else (tabZ, 6)
  else (tabZ, 1)
/-- Where a changed table lies while it is changed: its labels in block g, the variable itself in block xo. -/
structure OutAt (w w1 : World) (base g cap xo : Nat) (ys : List LabE) (T : Tab) : Prop where
  grew : Grew w w1
  hg : w.heap.size ≤ g
  hx : w.heap.size ≤ xo
  ne : xo ≠ g
  tab : TabO w1 base (.slice (some ⟨g, 0, none⟩) T.labels.length cap) ys T.labels
  blk : Blk w1 xo 34 #[.string T.name, .int .i64 T.tracks, .slice (some ⟨g, 0, none⟩) T.labels.length cap]
/-- A closure's contract: it makes labels and an error of a label. -/
def ChgR (w1 : World) (base g cap n : Nat) (r : List Lab × Int) (e : Ending) (w2 : World) : Prop :=
  e = .returned (.int .i64 r.2) ∧ (∃ ys, TabO w2 base (.slice (some ⟨g, 0, none⟩) n cap) ys r.1) ∧ Turned (fun x => x = g) w1 w2
theorem TabO.row {w : World} {base g n cap : Nat} {ys : List LabE} {ls : List Lab} (h : TabO w base (.slice (some ⟨g, 0, none⟩) n cap) ys ls) {k : Nat} (hk : k < ls.length) :
    ∃ B d, (ys.map labC)[k]? = some (labC ⟨B, d, ls[k]⟩) ∧ LabAt w B d ls[k] ∧ (0 < ls[k].ext.length → ∀ b off, B = some ⟨b, off, none⟩ → b ≠ g) ∧ ys[k]? = some ⟨B, d, ls[k]⟩ := by
  have hy : k < ys.length := by rw [h.len]; exact hk
  have h1 : (ys.map (·.l))[k]? = some ys[k].l := by rw [List.getElem?_map, List.getElem?_eq_getElem hy]; rfl
  rw [h.eq, List.getElem?_eq_getElem hk] at h1
  have h2 := Option.some.inj h1
  have h3 : ys[k] = ⟨ys[k].A, ys[k].c, ls[k]⟩ := by rw [h2]
  refine ⟨ys[k].A, ys[k].c, by rw [List.getElem?_map, List.getElem?_eq_getElem hy, ← h3]; rfl, by rw [h2]; exact h.lab _ (List.getElem_mem hy), fun h0 b off e => ?_, by rw [List.getElem?_eq_getElem hy, ← h3]⟩
  have := h.far ys[k] (List.getElem_mem hy) (by rw [← h2]; exact h0) b off e
  intro e2
  exact this (by rw [e2]; rfl)
theorem OwnL.cell0 {w : World} {base e sz g n cap : Nat} {rows : List (List Value)} (h : OwnL w base e sz (.slice (some ⟨g, 0, none⟩) n cap) rows) {j : Nat} {r : List Value} {u : Value} (hj : rows[j]? = some r) (hi : r[0]? = some u) : w.cell? ⟨g, j * sz, none⟩ = some u := h.cell hj hi
theorem OwnL.block_lt {w : World} {base e sz g n cap : Nat} {rows : List (List Value)} (h : OwnL w base e sz (.slice (some ⟨g, 0, none⟩) n cap) rows) : base ≤ g ∧ g < w.heap.size := h.own_ge rfl
theorem set_turned (w : World) (g o : Nat) (u : Value) : Turned (fun x => x = g) w (w.setCell ⟨g, o, none⟩ u) := (Turned.refl (fun x => x = g) w).setCell (p := ⟨g, o, none⟩) (fun _ => rfl) u
/-- One cell of one label is another one now. -/
theorem TabO.field {w : World} {base g n cap : Nat} {ys : List LabE} {ls : List Lab} (h : TabO w base (.slice (some ⟨g, 0, none⟩) n cap) ys ls) {k : Nat} (hk : k < ls.length) {B : Option Addr} {d : Nat} (hrow : (ys.map labC)[k]? = some (labC ⟨B, d, ls[k]⟩)) (i : Nat) (hi : i < 5) (u : Value) (y : LabE) (hy : labC y = (labC ⟨B, d, ls[k]⟩).set i u)
    (hl : LabAt w y.A y.c y.l) (hf : 0 < y.l.ext.length → ∀ b off, y.A = some ⟨b, off, none⟩ → b ≠ g) : TabO (w.setCell ⟨g, k * 5 + i, none⟩ u) base (.slice (some ⟨g, 0, none⟩) n cap) (ys.set k y) (ls.set k y.l) :=
  h.set_ k y hk (by rw [hy]; exact h.own.set_ hrow hi rfl u) (set_turned w g _ u) (hl.turned (set_turned w g _ u) (fun h0 b off e => hf h0 b off e)) hf
theorem TabO.after {w : World} {base g n cap : Nat} {ys : List LabE} {ls : List Lab} {k : Nat} {y : LabE} (hk : k < ys.length) : ((ys.set k y).map labC)[k]? = some (labC y) := by
  rw [List.getElem?_map, List.getElem?_set_self hk]; rfl
/-- A whole label of the own slice is stored anew, cell by cell. -/
theorem OwnL.set5 {w : World} {base e g n cap : Nat} {rows : List (List Value)} (h : OwnL w base e 5 (.slice (some ⟨g, 0, none⟩) n cap) rows) {j : Nat} {r : List Value} (hj : rows[j]? = some r) (a b c d f : Value) :
    OwnL (((((w.setCell ⟨g, j * 5, none⟩ a).setCell ⟨g, j * 5 + 1, none⟩ b).setCell ⟨g, j * 5 + 2, none⟩ c).setCell ⟨g, j * 5 + 3, none⟩ d).setCell ⟨g, j * 5 + 4, none⟩ f) base e 5 (.slice (some ⟨g, 0, none⟩) n cap) (rows.set j [a, b, c, d, f]) := by
  have hl : r.length = 5 := h.1 r (List.mem_of_getElem? hj)
  have hlt : j < rows.length := (List.getElem?_eq_some_iff.1 hj).1
  have h0 := h.set_ (i := 0) (o := j * 5) hj (by omega) rfl a
  have h1 := h0.set_ (i := 1) (o := j * 5 + 1) (List.getElem?_set_self hlt) (by omega) rfl b
  rw [List.set_set] at h1
  have h2 := h1.set_ (i := 2) (o := j * 5 + 2) (List.getElem?_set_self hlt) (by omega) rfl c
  rw [List.set_set] at h2
  have h3 := h2.set_ (i := 3) (o := j * 5 + 3) (List.getElem?_set_self hlt) (by omega) rfl d
  rw [List.set_set] at h3
  have h4 := h3.set_ (i := 4) (o := j * 5 + 4) (List.getElem?_set_self hlt) (by omega) rfl f
  rw [List.set_set] at h4
  match r, hl with
  | [r0, r1, r2, r3, r4], _ => exact h4
theorem set5_turned (w : World) (g o : Nat) (a b c d f : Value) : Turned (fun x => x = g) w (((((w.setCell ⟨g, o, none⟩ a).setCell ⟨g, o + 1, none⟩ b).setCell ⟨g, o + 2, none⟩ c).setCell ⟨g, o + 3, none⟩ d).setCell ⟨g, o + 4, none⟩ f) :=
  ((((set_turned w g _ a).trans (set_turned _ g _ b)).trans (set_turned _ g _ c)).trans (set_turned _ g _ d)).trans (set_turned _ g _ f)
theorem TabO.set5 {w : World} {base g n cap : Nat} {ys : List LabE} {ls : List Lab} (h : TabO w base (.slice (some ⟨g, 0, none⟩) n cap) ys ls) {k : Nat} (hk : k < ls.length) (y : LabE)
    (hl : LabAt w y.A y.c y.l) (hf : 0 < y.l.ext.length → ∀ b off, y.A = some ⟨b, off, none⟩ → b ≠ g) :
    TabO (((((w.setCell ⟨g, k * 5, none⟩ (.int .i64 y.l.id)).setCell ⟨g, k * 5 + 1, none⟩ (.int .i64 y.l.unit)).setCell ⟨g, k * 5 + 2, none⟩ (.string y.l.name)).setCell ⟨g, k * 5 + 3, none⟩ (.string y.l.note)).setCell ⟨g, k * 5 + 4, none⟩ (.slice y.A y.l.ext.length y.c)) base (.slice (some ⟨g, 0, none⟩) n cap) (ys.set k y) (ls.set k y.l) := by
  obtain ⟨B, d, hrow, _, _, _⟩ := h.row hk
  exact h.set_ k y hk (h.own.set5 hrow _ _ _ _ _) (set5_turned w g _ _ _ _ _ _) (hl.turned (set5_turned w g _ _ _ _ _ _) (fun h0 b off e => hf h0 b off e)) hf
section
variable (w w1 : World) (base g cap xo : Nat) (ys : List LabE) (T : Tab) (k : Nat) (hk : k < T.labels.length) (h : OutAt w w1 base g cap xo ys T)
include h
end
end Go.Proofs.Ytnlaogneceanoaa
namespace Go.Proofs.Ytnlaogneceanoaa
set_option linter.unusedVariables false
set_option linter.unusedSimpArgs false
set_option linter.unusedSectionVars false
open Go.RowKit
attribute [local go_sem ↓] Go.wp_at_zero Go.wp_at_succ
theorem TabO.row0 {w : World} {base g n cap : Nat} {ys : List LabE} {ls : List Lab} (h : TabO w base (.slice (some ⟨g, 0, none⟩) n cap) ys ls) {k : Nat} (hk : k < ls.length) : w.cell? ⟨g, k * 5, none⟩ = some (.int .i64 ls[k].id) := by
  obtain ⟨B, d, hrow, _, _, _⟩ := h.row hk
  exact h.own.cell0 hrow rfl
theorem TabO.row1 {w : World} {base g n cap : Nat} {ys : List LabE} {ls : List Lab} (h : TabO w base (.slice (some ⟨g, 0, none⟩) n cap) ys ls) {k : Nat} (hk : k < ls.length) : w.cell? ⟨g, k * 5 + 1, none⟩ = some (.int .i64 ls[k].unit) := by
  obtain ⟨B, d, hrow, _, _, _⟩ := h.row hk
  exact h.own.cell hrow (i := 1) rfl
theorem TabO.row3 {w : World} {base g n cap : Nat} {ys : List LabE} {ls : List Lab} (h : TabO w base (.slice (some ⟨g, 0, none⟩) n cap) ys ls) {k : Nat} (hk : k < ls.length) : w.cell? ⟨g, k * 5 + 3, none⟩ = some (.string ls[k].note) := by
  obtain ⟨B, d, hrow, _, _, _⟩ := h.row hk
  exact h.own.cell hrow (i := 3) rfl
theorem TabO.unit_ {w : World} {base g n cap : Nat} {ys : List LabE} {ls : List Lab} (h : TabO w base (.slice (some ⟨g, 0, none⟩) n cap) ys ls) {k : Nat} (hk : k < ls.length) (u : Int) (hu : -9223372036854775808 ≤ u ∧ u ≤ 9223372036854775807) : ∃ ys', TabO (w.setCell ⟨g, k * 5 + 1, none⟩ (.int .i64 u)) base (.slice (some ⟨g, 0, none⟩) n cap) ys' (ls.set k { ls[k] with unit := u }) := by
  obtain ⟨B, d, hrow, hla, hfar, _⟩ := h.row hk
  exact ⟨_, h.field hk hrow 1 (by decide) (.int .i64 u) ⟨B, d, { ls[k] with unit := u }⟩ rfl ⟨hla.id0, hla.id1, hu.1, hu.2, hla.name, hla.note, hla.runs, hla.len, hla.cap⟩ hfar⟩
theorem TabO.note_ {w : World} {base g n cap : Nat} {ys : List LabE} {ls : List Lab} (h : TabO w base (.slice (some ⟨g, 0, none⟩) n cap) ys ls) {k : Nat} (hk : k < ls.length) (u : ByteArray) (hu : u.size ≤ 9223372036854775807) : ∃ ys', TabO (w.setCell ⟨g, k * 5 + 3, none⟩ (.string u)) base (.slice (some ⟨g, 0, none⟩) n cap) ys' (ls.set k { ls[k] with note := u }) := by
  obtain ⟨B, d, hrow, hla, hfar, _⟩ := h.row hk
  exact ⟨_, h.field hk hrow 3 (by decide) (.string u) ⟨B, d, { ls[k] with note := u }⟩ rfl ⟨hla.id0, hla.id1, hla.unit0, hla.unit1, hla.name, hu, hla.runs, hla.len, hla.cap⟩ hfar⟩
theorem TabO.tabAt {w : World} {base g n cap : Nat} {ys : List LabE} {ls : List Lab} (h : TabO w base (.slice (some ⟨g, 0, none⟩) n cap) ys ls) (nm : ByteArray) (t : Int) (hn : nm.size ≤ 9223372036854775807) (t0 : -9223372036854775808 ≤ t) (t1 : t ≤ 9223372036854775807) : TabAt w (some ⟨g, 0, none⟩) cap ys ⟨nm, t, ls⟩ := by
  obtain ⟨A, c, hv, ht⟩ := h.form
  injection hv with h1 _ h3
  rw [h1, h3]
  exact ht nm t hn t0 t1
section
variable (w w1 : World) (base g cap xo : Nat) (ys : List LabE) (T : Tab) (k : Nat) (hk : k < T.labels.length) (h : OutAt w w1 base g cap xo ys T)
include h
end
end Go.Proofs.Ytnlaogneceanoaa
namespace Go.Proofs.Ytnlaogneceanoaa
set_option linter.unusedVariables false
set_option linter.unusedSimpArgs false
set_option linter.unusedSectionVars false
open Go.RowKit
attribute [local go_sem ↓] Go.wp_at_zero Go.wp_at_succ
theorem TabO.drew {w : World} {base : Nat} {v : Value} {ys : List LabE} {ls : List Lab} (h : TabO w base v ys ls) : TabO w.drew base v ys ls := h.hold (Grew.refl w).drew
section
variable (w w1 : World) (base g cap xo : Nat) (ys : List LabE) (T : Tab) (k : Nat) (hk : k < T.labels.length) (h : OutAt w w1 base g cap xo ys T)
include h
set_option maxRecDepth 100000 in
set_option maxHeartbeats 8000000 in
theorem confirm1_any (hs : SmallT T) (hn0 : T.name.size ≤ 9223372036854775807) (ht0 : -9223372036854775808 ≤ T.tracks) (ht1 : T.tracks ≤ 9223372036854775807) (note : ByteArray) (hns : note.size ≤ 9223372036854775807) (id unit : Int) (gn gr : Nat) (hbn : Blk w gn 9 #[.string note]) (hbr : Blk w gr 37 #[.int .i64 id, .int .i64 unit]) :
    Calls Try.prog 38 #[.pointer (some ⟨g, k * 5, none⟩), .pointer (some ⟨xo, 0, none⟩), .pointer (some ⟨gn, 0, none⟩), .pointer (some ⟨gr, 0, none⟩)] w1 (ChgR w1 base g cap T.labels.length (chCon T id note k T.labels[k])) := by
  have hbn1 := hbn.grew h.grew
  have hbr1 := hbr.grew h.grew
  have hg1 := h.tab.own.block_lt.2
  have hxo := h.blk.lt
  have hgn := hbn1.lt
  have hgr := hbr1.lt
  have hne := h.ne
  have hgng : ¬ gn = g := by have := h.hg; have := hbn.lt; omega
  have hgrg : ¬ gr = g := by have := h.hg; have := hbr.lt; omega
  have y0 : w1.cell? ⟨g, k * 5, none⟩ = some (.int .i64 T.labels[k].id) := h.tab.row0 hk
  have y1 : w1.cell? ⟨g, k * 5 + 1, none⟩ = some (.int .i64 T.labels[k].unit) := h.tab.row1 hk
  have n0 := hbn1.cell 0
  have r0 := hbr1.cell 0
  have HTAB := Lib.hid h.tab
  have HBO := Lib.hid h.blk
  have HBN := Lib.hid hbn1
  have HBR := Lib.hid hbr1
  have HC := Lib.hid (show chCon T id note k T.labels[k] = if T.labels[k].unit = 0 then (T.labels, 9) else if 400 < note.size then (T.labels, 1)
  else ((if 0 ≤ idxT T id 0 then T.labels.set (idxT T id 0).toNat labZ else T.labels).set k { T.labels[k] with unit := 0, note := note }, 0) from rfl)
  have hxs := h.blk
  clear h hbn hbr hbn1 hbr1
  cases hu : (T.labels[k].unit == 0) with
  | true =>
    have HE := Lib.hid (HC.out.trans (if_pos (by simpa using hu)))
    clear hxs
    go_enter Try.func38, Try.ntmps38
    go_wp2_with fail
    go_ret
    rw [HE.out]
    exact ⟨rfl, ⟨_, HTAB.out⟩, by (repeat' first | (with_reducible exact Turned.refl _ _) | (with_reducible assumption) | (with_reducible refine Turned.alloc ?_ _) | (with_reducible refine Turned.drew ?_) | (with_reducible refine Turned.drewN ?_ _) | (with_reducible refine Turned.setRow ?_ (by first | (simp; done) | (simp; omega) | omega) _) | (with_reducible refine Turned.setCell ?_ (by first | (simp; done) | (simp; omega) | omega) _) | ((with_reducible apply Turned.andGrew); rotate_left; (with_reducible assumption)) | ((with_reducible apply Turned.trans); rotate_left; (with_reducible assumption)) | fail)⟩
  | false =>
    have hu' : T.labels[k].unit ≠ 0 := by simpa using hu
    by_cases hn : 400 < note.size
    · have HE := Lib.hid (HC.out.trans (by rw [if_neg hu', if_pos hn]))
      have hni : (note.size : Int) > 400 := by omega
      clear hxs
      go_enter Try.func38, Try.ntmps38
      go_wp2_with fail
      go_ret
      rw [HE.out]
      exact ⟨rfl, ⟨_, HTAB.out⟩, by (repeat' first | (with_reducible exact Turned.refl _ _) | (with_reducible assumption) | (with_reducible refine Turned.alloc ?_ _) | (with_reducible refine Turned.drew ?_) | (with_reducible refine Turned.drewN ?_ _) | (with_reducible refine Turned.setRow ?_ (by first | (simp; done) | (simp; omega) | omega) _) | (with_reducible refine Turned.setCell ?_ (by first | (simp; done) | (simp; omega) | omega) _) | ((with_reducible apply Turned.andGrew); rotate_left; (with_reducible assumption)) | ((with_reducible apply Turned.trans); rotate_left; (with_reducible assumption)) | fail)⟩
    have hni : ¬ (note.size : Int) > 400 := by omega
    obtain ⟨ix, hix⟩ : ∃ ix, idxT T id 0 = ix := ⟨_, rfl⟩
    have hTA := HTAB.out.tabAt T.name T.tracks hn0 ht0 ht1
    have HIX := Lib.hid (fun w2 (g2 : Grew w1 w2) => cindex_any _ _ _ T id 0 w2 (hTA.hold g2) hs T.labels.length rfl ix hix)
    have hS : (fun w' : World => w'.cell? ⟨xo, 0, none⟩ = some (.string T.name) ∧ w'.cell? ⟨xo, 1, none⟩ = some (.int .i64 T.tracks) ∧ w'.cell? ⟨xo, 2, none⟩ = some (.slice (some ⟨g, 0, none⟩) T.labels.length cap) ∧ w'.cell? ⟨gr, 0, none⟩ = some (.int .i64 id)) w1.drew := ⟨hxs.drew.cell 0, hxs.drew.cell 1, hxs.drew.cell 2, r0⟩
    rcases idxP_cases (hitL id 0) T.labels with ⟨j, hj, hj1, hj2, _⟩ | ⟨hj1, _⟩
    · have hij : ix = (j : Int) := hix.symm.trans hj1
      obtain ⟨_, _, hj3⟩ := (hitL_iff _ _ _).1 hj2
      have hjk : j ≠ k := by rintro rfl; exact hu' hj3
      subst hij
      have HE := Lib.hid (HC.out.trans (by rw [if_neg hu', if_neg hn, if_pos (by rw [hix]; omega), hix, Int.toNat_natCast]))
      have hjn : (j : Int) < (T.labels.length : Int) := by omega
      have HLK := Lib.hid (show (T.labels.set j labZ)[k]'(by simpa using hk) = T.labels[k] from List.getElem_set_ne hjk _)
      clear hix hTA hj1 hj2 hxs hu'
      go_enter Try.func38, Try.ntmps38
      go_wp2_with fail
      refine wp_region_R [] (fun w' : World => w'.cell? ⟨xo, 0, none⟩ = some (.string T.name) ∧ w'.cell? ⟨xo, 1, none⟩ = some (.int .i64 T.tracks) ∧ w'.cell? ⟨xo, 2, none⟩ = some (.slice (some ⟨g, 0, none⟩) T.labels.length cap) ∧ w'.cell? ⟨gr, 0, none⟩ = some (.int .i64 id)) (by kernel_rfl) ?_
      refine wpAnyR_takeQ (i := 0) (v := ?_) (some 16) rfl rfl (by kernel_rfl) (by kernel_rfl) (by kernel_rfl) (by kernel_rfl) (fun _ _ _ h => h) (Or.inl ⟨by rfl, ?_⟩) ?_
      rotate_left
      focus (intro wS hSw; (try dsimp only at hSw); go_simp; (try with_reducible rfl); (try (first | (rw [if_pos (by omega)]; (try go_simp); (try with_reducible rfl)) | (rw [if_neg (by omega)]; (try go_simp); (try with_reducible rfl)))))
      try simp only [Act.put, zA, zB, zC]
      refine wpAnyR_take (i := 1) (v := ?_) [2, 6, 7] (some 17) rfl rfl (by kernel_rfl) (by kernel_rfl) (by kernel_rfl) (by kernel_rfl) (by kernel_rfl) (by kernel_rfl) (by kernel_rfl) (fun _ _ _ h => h) (Or.inl ⟨by rfl, ?_⟩) hS ?_
      rotate_left
      focus (intro wS hSw; (try dsimp only at hSw); go_simp; (try with_reducible rfl); (try (first | (rw [if_pos (by omega)]; (try go_simp); (try with_reducible rfl)) | (rw [if_neg (by omega)]; (try go_simp); (try with_reducible rfl)))))
      try simp only [Act.put, zA, zB, zC]
      refine wpAnyR_take (i := 2) (v := ?_) [6, 7] (some 18) rfl rfl (by kernel_rfl) (by kernel_rfl) (by kernel_rfl) (by kernel_rfl) (by kernel_rfl) (by kernel_rfl) (by kernel_rfl) (fun _ _ _ h => h) (Or.inl ⟨by rfl, ?_⟩) hS ?_
      rotate_left
      focus (intro wS hSw; (try dsimp only at hSw); go_simp; (try with_reducible rfl); (try (first | (rw [if_pos (by omega)]; (try go_simp); (try with_reducible rfl)) | (rw [if_neg (by omega)]; (try go_simp); (try with_reducible rfl)))))
      try simp only [Act.put, zA, zB, zC]
      refine wpAnyR_takeQ (i := 3) (v := ?_) (some 19) rfl rfl (by kernel_rfl) (by kernel_rfl) (by kernel_rfl) (by kernel_rfl) (fun _ _ _ h => h) (Or.inl ⟨by rfl, ?_⟩) ?_
      rotate_left
      focus (intro wS hSw; (try dsimp only at hSw); go_simp; (try with_reducible rfl); (try (first | (rw [if_pos (by omega)]; (try go_simp); (try with_reducible rfl)) | (rw [if_neg (by omega)]; (try go_simp); (try with_reducible rfl)))))
      try simp only [Act.put, zA, zB, zC]
      refine wpAnyR_take (i := 4) (v := ?_) [5, 6, 7] (some 20) rfl rfl (by kernel_rfl) (by kernel_rfl) (by kernel_rfl) (by kernel_rfl) (by kernel_rfl) (by kernel_rfl) (by kernel_rfl) (fun _ _ _ h => h) (Or.inl ⟨by rfl, ?_⟩) hS ?_
      rotate_left
      focus (intro wS hSw; (try dsimp only at hSw); go_simp; (try with_reducible rfl); (try (first | (rw [if_pos (by omega)]; (try go_simp); (try with_reducible rfl)) | (rw [if_neg (by omega)]; (try go_simp); (try with_reducible rfl)))))
      try simp only [Act.put, zA, zB, zC]
      refine wpAnyR_takeQ (i := 5) (v := ?_) (some 21) rfl rfl (by kernel_rfl) (by kernel_rfl) (by kernel_rfl) (by kernel_rfl) (fun _ _ _ h => h) (Or.inl ⟨by rfl, ?_⟩) ?_
      rotate_left
      focus (intro wS hSw; (try dsimp only at hSw); go_simp; (try with_reducible rfl); (try (first | (rw [if_pos (by omega)]; (try go_simp); (try with_reducible rfl)) | (rw [if_neg (by omega)]; (try go_simp); (try with_reducible rfl)))))
      try simp only [Act.put, zA, zB, zC]
      refine wpAnyR_n1 (i := 6) rfl (by kernel_rfl) ?_
      intro K' hK
      rw [if_pos (by rfl)]
      simp only [List.getElem_toArray, List.getElem_cons_succ, List.getElem_cons_zero]
      go_wp2_with fail
      refine (HIX.out _ (Grew.refl w1).drew).mono ?_
      rintro e w2 ⟨rfl, g2⟩
      have g2' : Grew w1 w2 := (Grew.refl w1).drew.trans g2
      go_wp2_with fail
      refine hK.out _ _ (.inr (fun h => by
        simp only [g2'.cellEq _ _ hxo, g2'.cellEq _ _ hgr]
        exact hS)) ?_
      clear hK hS
      refine wpAnyR_takeQ (i := 7) (v := ?_) (some 7) rfl rfl (by kernel_rfl) (by kernel_rfl) (by kernel_rfl) (by kernel_rfl) (fun _ _ _ h => h) (Or.inl ⟨by rfl, ?_⟩) ?_
      rotate_left
      focus (intro wS hSw; (try dsimp only at hSw); go_simp; (try with_reducible rfl); (try (first | (rw [if_pos (by omega)]; (try go_simp); (try with_reducible rfl)) | (rw [if_neg (by omega)]; (try go_simp); (try with_reducible rfl)))))
      try simp only [Act.put, zA, zB, zC]
      refine wpAnyR_done (by kernel_rfl) ?_ _
      have o2 := HBO.out.grew g2'
      have u0 := o2.cell 0
      have u1 := o2.cell 1
      have u2 := o2.cell 2
      have hxl2 := o2.lt
      have ht2 := HTAB.out.hold g2'
      obtain ⟨B2, d2, hrow2, _, _, _⟩ := ht2.row hj
      have a0 : w2.cell? ⟨g, j * 5, none⟩ = some (.int .i64 T.labels[j].id) := ht2.own.cell0 hrow2 rfl
      have a1 : w2.cell? ⟨g, j * 5 + 1, none⟩ = some (.int .i64 T.labels[j].unit) := ht2.own.cell hrow2 (i := 1) rfl
      have a2 : w2.cell? ⟨g, j * 5 + 2, none⟩ = some (.string T.labels[j].name) := ht2.own.cell hrow2 (i := 2) rfl
      have a3 : w2.cell? ⟨g, j * 5 + 3, none⟩ = some (.string T.labels[j].note) := ht2.own.cell hrow2 (i := 3) rfl
      have a4 : w2.cell? ⟨g, j * 5 + 4, none⟩ = some (.slice B2 T.labels[j].ext.length d2) := ht2.own.cell hrow2 (i := 4) rfl
      have af0 := ht2.own.frozen (j * 5)
      have af1 := ht2.own.frozen (j * 5 + 1)
      have af2 := ht2.own.frozen (j * 5 + 2)
      have af3 := ht2.own.frozen (j * 5 + 3)
      have af4 := ht2.own.frozen (j * 5 + 4)
      have HT3 := Lib.hid (ht2.set5 hj ⟨none, 0, labZ⟩ (LabAt.zero _) (fun h0 => absurd h0 (by decide)))
      have HTU3 := Lib.hid ((g2'.turned (fun x => x = g)).trans (set5_turned w2 g (j * 5) (.int .i64 0) (.int .i64 0) (.string ⟨#[]⟩) (.string ⟨#[]⟩) (.slice none 0 0)))
      have HB2 := Lib.hid (HBN.out.grew g2')
      clear ht2 hrow2 o2
      go_wp2_with fail
      obtain ⟨W, hW⟩ : ∃ W, W = ((((w2.setCell ⟨g, j * 5, none⟩ (.int .i64 0)).setCell ⟨g, j * 5 + 1, none⟩ (.int .i64 0)).setCell ⟨g, j * 5 + 2, none⟩ (.string ⟨#[]⟩)).setCell ⟨g, j * 5 + 3, none⟩ (.string ⟨#[]⟩)).setCell ⟨g, j * 5 + 4, none⟩ (.slice none 0 0) := ⟨_, rfl⟩
      rw [← hW]
      obtain ⟨ys3, HT3'⟩ : ∃ ys3, TabO W base (.slice (some ⟨g, 0, none⟩) T.labels.length cap) ys3 (T.labels.set j labZ) := ⟨_, by rw [hW]; exact HT3.out⟩
      have HTW : Turned (fun x => x = g) w1 W := by rw [hW]; exact HTU3.out
      have HBW : Blk W gn 9 #[.string note] := HBN.out.turned HTW hgng
      have hk' : k < (T.labels.set j labZ).length := by simpa using hk
      have hk2 : (T.labels.set j labZ)[k]'hk' = T.labels[k] := by first | exact HLK.out | rfl
      have ht3 := HT3'
      have z0 : W.cell? ⟨g, k * 5, none⟩ = some (.int .i64 T.labels[k].id) := by rw [← hk2]; exact ht3.row0 hk'
      have z1 : W.cell? ⟨g, k * 5 + 1, none⟩ = some (.int .i64 T.labels[k].unit) := by rw [← hk2]; exact ht3.row1 hk'
      have zf1 := ht3.own.frozen (k * 5 + 1)
      have hg3 := ht3.own.block_lt.2
      obtain ⟨ys4, ht4⟩ := ht3.drew.unit_ hk' 0 (by omega)
      have hk4 : k < ((T.labels.set j labZ).set k { (T.labels.set j labZ)[k]'hk' with unit := 0 }).length := by simpa using hk
      have hk5 : ((T.labels.set j labZ).set k { (T.labels.set j labZ)[k]'hk' with unit := 0 })[k]'hk4 = { T.labels[k] with unit := 0 } := by rw [List.getElem_set_self, hk2]
      have HZ0 := Lib.hid (show (World.setCell W.drew ⟨g, k * 5 + 1, none⟩ (.int .i64 0)).cell? ⟨g, k * 5, none⟩ = some (.int .i64 T.labels[k].id) from by have := ht4.row0 hk4; rwa [hk5] at this)
      have z3 : (World.setCell W.drew ⟨g, k * 5 + 1, none⟩ (.int .i64 0)).cell? ⟨g, k * 5 + 3, none⟩ = some (.string T.labels[k].note) := by have := ht4.row3 hk4; rwa [hk5] at this
      have y3 : W.cell? ⟨g, k * 5 + 3, none⟩ = some (.string T.labels[k].note) := by rw [← hk2]; exact ht3.row3 hk'
      have zf3 := ht3.own.frozen (k * 5 + 3)
      obtain ⟨ys5, ht5⟩ := ht4.note_ hk4 note hns
      have HT5 := Lib.hid (show ∃ ys, TabO _ base (.slice (some ⟨g, 0, none⟩) T.labels.length cap) ys ((T.labels.set j labZ).set k { T.labels[k] with unit := 0, note := note }) from ⟨ys5, by rw [hk5, List.set_set] at ht5; exact ht5⟩)
      have HTU := Lib.hid (((HTW).drew.trans (set_turned _ g (k * 5 + 1) (.int .i64 0))).trans (set_turned _ g (k * 5 + 3) (.string note)))
      have HB3 := Lib.hid (HBW)
      have hgn3 := HB3.out.lt
      have b3 := HB3.out.cell 0
      clear ht3 ht4 ht5 hk5
      clear a0 a1 a2 a3 a4 af0 af1 af2 af3 af4 hW HT3' HTW HBW u0 u1 u2 y0 y1 n0 r0 HT3 HTU3 HB2
      refine wp_region_R [8] (fun w' : World => w'.cell? ⟨gn, 0, none⟩ = some (.string note) ∧ w'.cell? ⟨g, k * 5, none⟩ = some (.int .i64 T.labels[k].id)) (by kernel_rfl) ?_
      have hS : (fun w' : World => w'.cell? ⟨gn, 0, none⟩ = some (.string note) ∧ w'.cell? ⟨g, k * 5, none⟩ = some (.int .i64 T.labels[k].id)) (World.drew _) := ⟨HB3.out.drew.cell 0, z0⟩
      refine wpAnyR_takeQ (i := 0) (v := ?_) (some 32) rfl rfl (by kernel_rfl) (by kernel_rfl) (by kernel_rfl) (by kernel_rfl) (fun _ _ _ h => h) (Or.inl ⟨by rfl, ?_⟩) ?_
      rotate_left
      focus (intro wS hSw; (try dsimp only at hSw); go_simp; (try with_reducible rfl); (try (first | (rw [if_pos (by omega)]; (try go_simp); (try with_reducible rfl)) | (rw [if_neg (by omega)]; (try go_simp); (try with_reducible rfl)))))
      try simp only [Act.put, zA, zB, zC]
      refine wpAnyR_takeQ (i := 1) (v := ?_) (some 33) rfl rfl (by kernel_rfl) (by kernel_rfl) (by kernel_rfl) (by kernel_rfl) (fun _ _ _ h => h) (Or.inl ⟨by rfl, ?_⟩) ?_
      rotate_left
      focus (intro wS hSw; (try dsimp only at hSw); go_simp; (try with_reducible rfl); (try (first | (rw [if_pos (by omega)]; (try go_simp); (try with_reducible rfl)) | (rw [if_neg (by omega)]; (try go_simp); (try with_reducible rfl)))))
      try simp only [Act.put, zA, zB, zC]
      refine wpAnyR_take (i := 2) (v := ?_) [6, 7, 8] (some 34) rfl rfl (by kernel_rfl) (by kernel_rfl) (by kernel_rfl) (by kernel_rfl) (by kernel_rfl) (by kernel_rfl) (by kernel_rfl) (fun _ _ _ h => h) (Or.inl ⟨by rfl, ?_⟩) hS ?_
      rotate_left
      focus (intro wS hSw; (try dsimp only at hSw); go_simp; (try with_reducible rfl); (try (first | (rw [if_pos (by omega)]; (try go_simp); (try with_reducible rfl)) | (rw [if_neg (by omega)]; (try go_simp); (try with_reducible rfl)))))
      try simp only [Act.put, zA, zB, zC]
      refine wpAnyR_take (i := 3) (v := ?_) [4, 5, 6, 7, 8] (some 35) rfl rfl (by kernel_rfl) (by kernel_rfl) (by kernel_rfl) (by kernel_rfl) (by kernel_rfl) (by kernel_rfl) (by kernel_rfl) (fun _ _ _ h => h) (Or.inl ⟨by rfl, ?_⟩) hS ?_
      rotate_left
      focus (intro wS hSw; (try dsimp only at hSw); go_simp; (try with_reducible rfl); (try (first | (rw [if_pos (by omega)]; (try go_simp); (try with_reducible rfl)) | (rw [if_neg (by omega)]; (try go_simp); (try with_reducible rfl)))))
      try simp only [Act.put, zA, zB, zC]
      refine wpAnyR_takeQ (i := 4) (v := ?_) (some 36) rfl rfl (by kernel_rfl) (by kernel_rfl) (by kernel_rfl) (by kernel_rfl) (fun _ _ _ h => h) (Or.inl ⟨by rfl, ?_⟩) ?_
      rotate_left
      focus (intro wS hSw; (try dsimp only at hSw); go_simp; (try with_reducible rfl); (try (first | (rw [if_pos (by omega)]; (try go_simp); (try with_reducible rfl)) | (rw [if_neg (by omega)]; (try go_simp); (try with_reducible rfl)))))
      try simp only [Act.put, zA, zB, zC]
      refine wpAnyR_n1 (i := 5) rfl (by kernel_rfl) ?_
      intro K' hK
      rw [if_pos (by rfl)]
      simp only [List.getElem_toArray, List.getElem_cons_succ, List.getElem_cons_zero]
      go_wp2_with fail
      refine hK.out _ _ (.inr (fun h => ⟨(HB3.out.drew.far (p := ⟨g, k * 5 + 1, none⟩) hgng (.int .i64 0)).cell 0, HZ0.out⟩)) ?_
      clear hK hS
      have hS : (fun w' : World => w'.cell? ⟨gn, 0, none⟩ = some (.string note) ∧ w'.cell? ⟨g, k * 5, none⟩ = some (.int .i64 T.labels[k].id)) (W.setCell ⟨g, k * 5 + 1, none⟩ (.int .i64 0)).drew := ⟨(HB3.out.drew.far (p := ⟨g, k * 5 + 1, none⟩) hgng (.int .i64 0)).cell 0, HZ0.out⟩
      refine wpAnyR_take (i := 6) (v := ?_) [7, 8] (some 37) rfl rfl (by kernel_rfl) (by kernel_rfl) (by kernel_rfl) (by kernel_rfl) (by kernel_rfl) (by kernel_rfl) (by kernel_rfl) (fun _ _ _ h => h) (Or.inl ⟨by rfl, ?_⟩) hS ?_
      rotate_left
      focus (intro wS hSw; (try dsimp only at hSw); go_simp; (try with_reducible rfl); (try (first | (rw [if_pos (by omega)]; (try go_simp); (try with_reducible rfl)) | (rw [if_neg (by omega)]; (try go_simp); (try with_reducible rfl)))))
      try simp only [Act.put, zA, zB, zC]
      refine wpAnyR_takeQ (i := 7) (v := ?_) (some 38) rfl rfl (by kernel_rfl) (by kernel_rfl) (by kernel_rfl) (by kernel_rfl) (fun _ _ _ h => h) (Or.inl ⟨by rfl, ?_⟩) ?_
      rotate_left
      focus (intro wS hSw; (try dsimp only at hSw); go_simp; (try with_reducible rfl); (try (first | (rw [if_pos (by omega)]; (try go_simp); (try with_reducible rfl)) | (rw [if_neg (by omega)]; (try go_simp); (try with_reducible rfl)))))
      try simp only [Act.put, zA, zB, zC]
      refine wpAnyR_n1 (i := 8) rfl (by kernel_rfl) ?_
      intro K' hK
      rw [if_pos (by rfl)]
      simp only [List.getElem_toArray, List.getElem_cons_succ, List.getElem_cons_zero]
      go_wp2_with fail
      refine hK.out _ _ (.inl rfl) ?_
      clear hK
      refine wpAnyR_done (by kernel_rfl) ?_ _
      go_wp2_with fail
      go_ret
      rw [HE.out]
      exact ⟨rfl, HT5.out, HTU.out⟩
    · have hij : ix = -1 := hix.symm.trans hj1
      subst hij
      have HE := Lib.hid (HC.out.trans (by rw [if_neg hu', if_neg hn, if_neg (by rw [hix]; omega)]))
      have HLK := Lib.hid (show (T.labels)[k]'(by simpa using hk) = T.labels[k] from rfl)
      clear hix hTA hj1 hxs hu'
      go_enter Try.func38, Try.ntmps38
      go_wp2_with fail
      refine wp_region_R [] (fun w' : World => w'.cell? ⟨xo, 0, none⟩ = some (.string T.name) ∧ w'.cell? ⟨xo, 1, none⟩ = some (.int .i64 T.tracks) ∧ w'.cell? ⟨xo, 2, none⟩ = some (.slice (some ⟨g, 0, none⟩) T.labels.length cap) ∧ w'.cell? ⟨gr, 0, none⟩ = some (.int .i64 id)) (by kernel_rfl) ?_
      refine wpAnyR_takeQ (i := 0) (v := ?_) (some 16) rfl rfl (by kernel_rfl) (by kernel_rfl) (by kernel_rfl) (by kernel_rfl) (fun _ _ _ h => h) (Or.inl ⟨by rfl, ?_⟩) ?_
      rotate_left
      focus (intro wS hSw; (try dsimp only at hSw); go_simp; (try with_reducible rfl); (try (first | (rw [if_pos (by omega)]; (try go_simp); (try with_reducible rfl)) | (rw [if_neg (by omega)]; (try go_simp); (try with_reducible rfl)))))
      try simp only [Act.put, zA, zB, zC]
      refine wpAnyR_take (i := 1) (v := ?_) [2, 6, 7] (some 17) rfl rfl (by kernel_rfl) (by kernel_rfl) (by kernel_rfl) (by kernel_rfl) (by kernel_rfl) (by kernel_rfl) (by kernel_rfl) (fun _ _ _ h => h) (Or.inl ⟨by rfl, ?_⟩) hS ?_
      rotate_left
      focus (intro wS hSw; (try dsimp only at hSw); go_simp; (try with_reducible rfl); (try (first | (rw [if_pos (by omega)]; (try go_simp); (try with_reducible rfl)) | (rw [if_neg (by omega)]; (try go_simp); (try with_reducible rfl)))))
      try simp only [Act.put, zA, zB, zC]
      refine wpAnyR_take (i := 2) (v := ?_) [6, 7] (some 18) rfl rfl (by kernel_rfl) (by kernel_rfl) (by kernel_rfl) (by kernel_rfl) (by kernel_rfl) (by kernel_rfl) (by kernel_rfl) (fun _ _ _ h => h) (Or.inl ⟨by rfl, ?_⟩) hS ?_
      rotate_left
      focus (intro wS hSw; (try dsimp only at hSw); go_simp; (try with_reducible rfl); (try (first | (rw [if_pos (by omega)]; (try go_simp); (try with_reducible rfl)) | (rw [if_neg (by omega)]; (try go_simp); (try with_reducible rfl)))))
      try simp only [Act.put, zA, zB, zC]
      refine wpAnyR_takeQ (i := 3) (v := ?_) (some 19) rfl rfl (by kernel_rfl) (by kernel_rfl) (by kernel_rfl) (by kernel_rfl) (fun _ _ _ h => h) (Or.inl ⟨by rfl, ?_⟩) ?_
      rotate_left
      focus (intro wS hSw; (try dsimp only at hSw); go_simp; (try with_reducible rfl); (try (first | (rw [if_pos (by omega)]; (try go_simp); (try with_reducible rfl)) | (rw [if_neg (by omega)]; (try go_simp); (try with_reducible rfl)))))
      try simp only [Act.put, zA, zB, zC]
      refine wpAnyR_take (i := 4) (v := ?_) [5, 6, 7] (some 20) rfl rfl (by kernel_rfl) (by kernel_rfl) (by kernel_rfl) (by kernel_rfl) (by kernel_rfl) (by kernel_rfl) (by kernel_rfl) (fun _ _ _ h => h) (Or.inl ⟨by rfl, ?_⟩) hS ?_
      rotate_left
      focus (intro wS hSw; (try dsimp only at hSw); go_simp; (try with_reducible rfl); (try (first | (rw [if_pos (by omega)]; (try go_simp); (try with_reducible rfl)) | (rw [if_neg (by omega)]; (try go_simp); (try with_reducible rfl)))))
      try simp only [Act.put, zA, zB, zC]
      refine wpAnyR_takeQ (i := 5) (v := ?_) (some 21) rfl rfl (by kernel_rfl) (by kernel_rfl) (by kernel_rfl) (by kernel_rfl) (fun _ _ _ h => h) (Or.inl ⟨by rfl, ?_⟩) ?_
      rotate_left
      focus (intro wS hSw; (try dsimp only at hSw); go_simp; (try with_reducible rfl); (try (first | (rw [if_pos (by omega)]; (try go_simp); (try with_reducible rfl)) | (rw [if_neg (by omega)]; (try go_simp); (try with_reducible rfl)))))
      try simp only [Act.put, zA, zB, zC]
      refine wpAnyR_n1 (i := 6) rfl (by kernel_rfl) ?_
      intro K' hK
      rw [if_pos (by rfl)]
      simp only [List.getElem_toArray, List.getElem_cons_succ, List.getElem_cons_zero]
      go_wp2_with fail
      refine (HIX.out _ (Grew.refl w1).drew).mono ?_
      rintro e W ⟨rfl, g2⟩
      have g2' : Grew w1 W := (Grew.refl w1).drew.trans g2
      go_wp2_with fail
      refine hK.out _ _ (.inr (fun h => by
        simp only [g2'.cellEq _ _ hxo, g2'.cellEq _ _ hgr]
        exact hS)) ?_
      clear hK hS
      refine wpAnyR_takeQ (i := 7) (v := ?_) (some 7) rfl rfl (by kernel_rfl) (by kernel_rfl) (by kernel_rfl) (by kernel_rfl) (fun _ _ _ h => h) (Or.inl ⟨by rfl, ?_⟩) ?_
      rotate_left
      focus (intro wS hSw; (try dsimp only at hSw); go_simp; (try with_reducible rfl); (try (first | (rw [if_pos (by omega)]; (try go_simp); (try with_reducible rfl)) | (rw [if_neg (by omega)]; (try go_simp); (try with_reducible rfl)))))
      try simp only [Act.put, zA, zB, zC]
      refine wpAnyR_done (by kernel_rfl) ?_ _
      have hk' : k < (T.labels).length := by simpa using hk
      have hk2 : (T.labels)[k]'hk' = T.labels[k] := by first | exact HLK.out | rfl
      have ht3 := HTAB.out.hold g2'
      have z0 : W.cell? ⟨g, k * 5, none⟩ = some (.int .i64 T.labels[k].id) := by rw [← hk2]; exact ht3.row0 hk'
      have z1 : W.cell? ⟨g, k * 5 + 1, none⟩ = some (.int .i64 T.labels[k].unit) := by rw [← hk2]; exact ht3.row1 hk'
      have zf1 := ht3.own.frozen (k * 5 + 1)
      have hg3 := ht3.own.block_lt.2
      obtain ⟨ys4, ht4⟩ := ht3.drew.unit_ hk' 0 (by omega)
      have hk4 : k < ((T.labels).set k { (T.labels)[k]'hk' with unit := 0 }).length := by simpa using hk
      have hk5 : ((T.labels).set k { (T.labels)[k]'hk' with unit := 0 })[k]'hk4 = { T.labels[k] with unit := 0 } := by rw [List.getElem_set_self, hk2]
      have HZ0 := Lib.hid (show (World.setCell W.drew ⟨g, k * 5 + 1, none⟩ (.int .i64 0)).cell? ⟨g, k * 5, none⟩ = some (.int .i64 T.labels[k].id) from by have := ht4.row0 hk4; rwa [hk5] at this)
      have z3 : (World.setCell W.drew ⟨g, k * 5 + 1, none⟩ (.int .i64 0)).cell? ⟨g, k * 5 + 3, none⟩ = some (.string T.labels[k].note) := by have := ht4.row3 hk4; rwa [hk5] at this
      have y3 : W.cell? ⟨g, k * 5 + 3, none⟩ = some (.string T.labels[k].note) := by rw [← hk2]; exact ht3.row3 hk'
      have zf3 := ht3.own.frozen (k * 5 + 3)
      obtain ⟨ys5, ht5⟩ := ht4.note_ hk4 note hns
      have HT5 := Lib.hid (show ∃ ys, TabO _ base (.slice (some ⟨g, 0, none⟩) T.labels.length cap) ys ((T.labels).set k { T.labels[k] with unit := 0, note := note }) from ⟨ys5, by rw [hk5, List.set_set] at ht5; exact ht5⟩)
      have HTU := Lib.hid (((g2'.turned (fun x => x = g)).drew.trans (set_turned _ g (k * 5 + 1) (.int .i64 0))).trans (set_turned _ g (k * 5 + 3) (.string note)))
      have HB3 := Lib.hid (HBN.out.grew g2')
      have hgn3 := HB3.out.lt
      have b3 := HB3.out.cell 0
      clear ht3 ht4 ht5 hk5
      clear y0 y1 n0 r0 g2 g2'
      go_wp2_with fail
      refine wp_region_R [8] (fun w' : World => w'.cell? ⟨gn, 0, none⟩ = some (.string note) ∧ w'.cell? ⟨g, k * 5, none⟩ = some (.int .i64 T.labels[k].id)) (by kernel_rfl) ?_
      have hS : (fun w' : World => w'.cell? ⟨gn, 0, none⟩ = some (.string note) ∧ w'.cell? ⟨g, k * 5, none⟩ = some (.int .i64 T.labels[k].id)) (World.drew _) := ⟨HB3.out.drew.cell 0, z0⟩
      refine wpAnyR_takeQ (i := 0) (v := ?_) (some 32) rfl rfl (by kernel_rfl) (by kernel_rfl) (by kernel_rfl) (by kernel_rfl) (fun _ _ _ h => h) (Or.inl ⟨by rfl, ?_⟩) ?_
      rotate_left
      focus (intro wS hSw; (try dsimp only at hSw); go_simp; (try with_reducible rfl); (try (first | (rw [if_pos (by omega)]; (try go_simp); (try with_reducible rfl)) | (rw [if_neg (by omega)]; (try go_simp); (try with_reducible rfl)))))
      try simp only [Act.put, zA, zB, zC]
      refine wpAnyR_takeQ (i := 1) (v := ?_) (some 33) rfl rfl (by kernel_rfl) (by kernel_rfl) (by kernel_rfl) (by kernel_rfl) (fun _ _ _ h => h) (Or.inl ⟨by rfl, ?_⟩) ?_
      rotate_left
      focus (intro wS hSw; (try dsimp only at hSw); go_simp; (try with_reducible rfl); (try (first | (rw [if_pos (by omega)]; (try go_simp); (try with_reducible rfl)) | (rw [if_neg (by omega)]; (try go_simp); (try with_reducible rfl)))))
      try simp only [Act.put, zA, zB, zC]
      refine wpAnyR_take (i := 2) (v := ?_) [6, 7, 8] (some 34) rfl rfl (by kernel_rfl) (by kernel_rfl) (by kernel_rfl) (by kernel_rfl) (by kernel_rfl) (by kernel_rfl) (by kernel_rfl) (fun _ _ _ h => h) (Or.inl ⟨by rfl, ?_⟩) hS ?_
      rotate_left
      focus (intro wS hSw; (try dsimp only at hSw); go_simp; (try with_reducible rfl); (try (first | (rw [if_pos (by omega)]; (try go_simp); (try with_reducible rfl)) | (rw [if_neg (by omega)]; (try go_simp); (try with_reducible rfl)))))
      try simp only [Act.put, zA, zB, zC]
      refine wpAnyR_take (i := 3) (v := ?_) [4, 5, 6, 7, 8] (some 35) rfl rfl (by kernel_rfl) (by kernel_rfl) (by kernel_rfl) (by kernel_rfl) (by kernel_rfl) (by kernel_rfl) (by kernel_rfl) (fun _ _ _ h => h) (Or.inl ⟨by rfl, ?_⟩) hS ?_
      rotate_left
      focus (intro wS hSw; (try dsimp only at hSw); go_simp; (try with_reducible rfl); (try (first | (rw [if_pos (by omega)]; (try go_simp); (try with_reducible rfl)) | (rw [if_neg (by omega)]; (try go_simp); (try with_reducible rfl)))))
      try simp only [Act.put, zA, zB, zC]
      refine wpAnyR_takeQ (i := 4) (v := ?_) (some 36) rfl rfl (by kernel_rfl) (by kernel_rfl) (by kernel_rfl) (by kernel_rfl) (fun _ _ _ h => h) (Or.inl ⟨by rfl, ?_⟩) ?_
      rotate_left
      focus (intro wS hSw; (try dsimp only at hSw); go_simp; (try with_reducible rfl); (try (first | (rw [if_pos (by omega)]; (try go_simp); (try with_reducible rfl)) | (rw [if_neg (by omega)]; (try go_simp); (try with_reducible rfl)))))
      try simp only [Act.put, zA, zB, zC]
      refine wpAnyR_n1 (i := 5) rfl (by kernel_rfl) ?_
      intro K' hK
      rw [if_pos (by rfl)]
      simp only [List.getElem_toArray, List.getElem_cons_succ, List.getElem_cons_zero]
      go_wp2_with fail
      refine hK.out _ _ (.inr (fun h => ⟨(HB3.out.drew.far (p := ⟨g, k * 5 + 1, none⟩) hgng (.int .i64 0)).cell 0, HZ0.out⟩)) ?_
      clear hK hS
      have hS : (fun w' : World => w'.cell? ⟨gn, 0, none⟩ = some (.string note) ∧ w'.cell? ⟨g, k * 5, none⟩ = some (.int .i64 T.labels[k].id)) (W.setCell ⟨g, k * 5 + 1, none⟩ (.int .i64 0)).drew := ⟨(HB3.out.drew.far (p := ⟨g, k * 5 + 1, none⟩) hgng (.int .i64 0)).cell 0, HZ0.out⟩
      refine wpAnyR_take (i := 6) (v := ?_) [7, 8] (some 37) rfl rfl (by kernel_rfl) (by kernel_rfl) (by kernel_rfl) (by kernel_rfl) (by kernel_rfl) (by kernel_rfl) (by kernel_rfl) (fun _ _ _ h => h) (Or.inl ⟨by rfl, ?_⟩) hS ?_
      rotate_left
      focus (intro wS hSw; (try dsimp only at hSw); go_simp; (try with_reducible rfl); (try (first | (rw [if_pos (by omega)]; (try go_simp); (try with_reducible rfl)) | (rw [if_neg (by omega)]; (try go_simp); (try with_reducible rfl)))))
      try simp only [Act.put, zA, zB, zC]
      refine wpAnyR_takeQ (i := 7) (v := ?_) (some 38) rfl rfl (by kernel_rfl) (by kernel_rfl) (by kernel_rfl) (by kernel_rfl) (fun _ _ _ h => h) (Or.inl ⟨by rfl, ?_⟩) ?_
      rotate_left
      focus (intro wS hSw; (try dsimp only at hSw); go_simp; (try with_reducible rfl); (try (first | (rw [if_pos (by omega)]; (try go_simp); (try with_reducible rfl)) | (rw [if_neg (by omega)]; (try go_simp); (try with_reducible rfl)))))
      try simp only [Act.put, zA, zB, zC]
      refine wpAnyR_n1 (i := 8) rfl (by kernel_rfl) ?_
      intro K' hK
      rw [if_pos (by rfl)]
      simp only [List.getElem_toArray, List.getElem_cons_succ, List.getElem_cons_zero]
      go_wp2_with fail
      refine hK.out _ _ (.inl rfl) ?_
      clear hK
      refine wpAnyR_done (by kernel_rfl) ?_ _
      go_wp2_with fail
      go_ret
      rw [HE.out]
      exact ⟨rfl, HT5.out, HTU.out⟩
end
end Go.Proofs.Ytnlaogneceanoaa
namespace Go.Proofs.Ytnlaogneceanoaa
set_option linter.unusedVariables false
set_option linter.unusedSimpArgs false
set_option linter.unusedSectionVars false
open Go.RowKit
theorem OwnL.len {w : World} {base e sz g n cap : Nat} {rows : List (List Value)} (h : OwnL w base e sz (.slice (some ⟨g, 0, none⟩) n cap) rows) : rows.length = n ∧ n ≤ cap ∧ cap ≤ 9223372036854775807 := by
  rcases h.2.2 with ⟨h0, _⟩ | ⟨g', cap', cur, hv, _, _, hn, hm, _⟩
  · cases h0
  · injection hv with _ h1 h2
    unfold maxLen at hm
    exact ⟨h1.symm, by rw [h1, h2]; exact hn, by rw [h2]; simpa using hm⟩
theorem OwnL.block {w : World} {base e sz g n cap : Nat} {rows : List (List Value)} (h : OwnL w base e sz (.slice (some ⟨g, 0, none⟩) n cap) rows) :
    ∃ cur, base ≤ g ∧ w.heap[g]? = some (.cells cur e (0, 0)) ∧ cur.size = cap * sz ∧ cur.toList.take (n * sz) = rows.flatten := by
  have hlen := h.len.1
  rcases h.2.2 with ⟨h0, _⟩ | ⟨g', cap', cur, hv, hb, hh, hn, hm, hs, ht⟩
  · cases h0
  · injection hv with h0 h1 h2
    injection h0 with h0
    injection h0 with h0 _ _
    subst h0
    rw [hlen] at ht
    exact ⟨cur, hb, hh, by rw [hs, h2], ht⟩
section
variable {P : Program}
end
end Go.Proofs.Ytnlaogneceanoaa
namespace Go.Proofs.Ytnlaogneceanoaa
set_option linter.unusedVariables false
set_option linter.unusedSimpArgs false
set_option linter.unusedSectionVars false
open Go.RowKit
attribute [local go_sem ↓] Go.wp_at_zero Go.wp_at_succ
theorem runs_ne_tab {w : World} {A : Option Addr} {l : List (Int × Int)} {g : Nat} {t : TypeId} {s : ByteArray} {i : Int} {a : Option Addr} {n c : Nat} (h : RunsAt w w.heap.size A l) (hl : 0 < l.length) (hb : Blk w g t #[.string s, .int .i64 i, .slice a n c]) : ∀ b off, A = some ⟨b, off, none⟩ → b ≠ g := by
  rintro b off e rfl
  obtain ⟨b', off', x, y, e', hb', hv, _, c0, c1⟩ := h.at_ (k := 0) hl
  rw [e] at e'
  injection e' with e'
  injection e' with e1 e2 _
  subst e1; subst e2
  rw [Nat.zero_mul, Nat.add_zero] at c0 c1
  rw [hb.cell] at c0 c1
  match off with
  | 0 => simp at c0
  | 1 => simp at c1
  | 2 => simp at c0
  | off + 3 => simp at c0
theorem TabO.apart {w : World} {base : Nat} {v : Value} {ys : List LabE} {ls : List Lab} (h : TabO w base v ys ls) {g : Nat} {t : TypeId} {s : ByteArray} {i : Int} {a : Option Addr} {n c : Nat} (hb : Blk w g t #[.string s, .int .i64 i, .slice a n c]) : ∀ y ∈ ys, 0 < y.l.ext.length → ∀ b off, y.A = some ⟨b, off, none⟩ → ¬ b = g :=
  fun y hy h0 b off e => runs_ne_tab (h.lab y hy).runs h0 hb b off e
theorem TabO.nlen {w : World} {base g n cap : Nat} {ys : List LabE} {ls : List Lab} (h : TabO w base (.slice (some ⟨g, 0, none⟩) n cap) ys ls) : ls.length = n := by
  have h1 := h.own.len.1
  rw [List.length_map, h.len] at h1
  exact h1
theorem chgT_cases (T : Tab) (id unit : Int) (F : Nat → Lab → List Lab × Int) : (validT T = false ∧ chgT T id unit F = (tabZ, 1)) ∨ (validT T = true ∧ idxT T id unit = -1 ∧ chgT T id unit F = (tabZ, 6)) ∨
    (validT T = true ∧ ∃ (k : Nat) (hk : k < T.labels.length), idxT T id unit = (k : Int) ∧ hitL id unit T.labels[k] = true ∧ (((F k T.labels[k]).2 = 0 ∧ chgT T id unit F = ({ T with labels := (F k T.labels[k]).1 }, 0)) ∨ ((F k T.labels[k]).2 ≠ 0 ∧ chgT T id unit F = (tabZ, (F k T.labels[k]).2)))) := by
  unfold chgT
  cases hv : validT T with
  | false => exact .inl ⟨rfl, if_neg (by simp)⟩
  | true =>
    right
    rw [if_pos rfl]
    rcases idxP_cases (hitL id unit) T.labels with ⟨k, hk, h1, h2, _⟩ | ⟨h1, _⟩
    · have h1' : idxT T id unit = (k : Int) := h1
      right
      rw [h1', if_pos (by omega), Int.toNat_natCast, List.getD_eq_getElem?_getD, List.getElem?_eq_getElem hk, Option.getD_some]
      refine ⟨rfl, k, hk, rfl, h2, ?_⟩
      by_cases h0 : (F k T.labels[k]).2 = 0
      · exact .inl ⟨h0, by rw [if_pos h0]⟩
      · exact .inr ⟨h0, by rw [if_neg h0]⟩
    · have h1' : idxT T id unit = -1 := h1
      left
      rw [h1', if_neg (by omega)]
      exact ⟨rfl, rfl, rfl⟩
/-- A table and an error, returned. -/
def TabR (w : World) (T : Tab) (er : Int) (e : Ending) (w' : World) : Prop :=
  ∃ A c xs, e = .returned (.tuple #[.agg #[.string T.name, .int .i64 T.tracks, .slice A T.labels.length c], .int .i64 er]) ∧ TabAt w' A c xs T ∧ Grew w w'
section
variable (A : Option Addr) (c : Nat) (xs : List LabE) (T : Tab) (id unit : Int) (w : World) (p1 p2 : Nat)
set_option maxRecDepth 100000 in
set_option maxHeartbeats 8000000 in
theorem change_con (h : TabAt w A c xs T) (hs : SmallT T) (F : Nat → Lab → List Lab × Int)
    (HC : ∀ (w1 : World) (base g cap xo : Nat) (ys : List LabE) (k : Nat) (hk : k < T.labels.length), hitL id unit T.labels[k] = true → OutAt w w1 base g cap xo ys T → Calls Try.prog 38 #[.pointer (some ⟨g, k * 5, none⟩), .pointer (some ⟨xo, 0, none⟩), .pointer (some ⟨p1, 0, none⟩), .pointer (some ⟨p2, 0, none⟩)] w1 (ChgR w1 base g cap T.labels.length (F k T.labels[k])))
    (T' : Tab) (er : Int) (hr : chgT T id unit F = (T', er)) :
    Calls Try.prog 37 #[.agg #[.string T.name, .int .i64 T.tracks, .slice A T.labels.length c], .agg #[.int .i64 id, .int .i64 unit], .func (.func 38) #[] #[.pointer (some ⟨p1, 0, none⟩), .pointer (some ⟨p2, 0, none⟩)]] w (TabR w T' er) := by
  have hg0 := (((Grew.refl w).alloc (.cells #[.string T.name, .int .i64 T.tracks, .slice A T.labels.length c] 34)).alloc (.cells #[.int .i64 id, .int .i64 unit] 37)).alloc (.cells #[.string ⟨#[]⟩, .int .i64 0, .slice none 0 0] 34)
  have hb0 := ((Blk.new w 34 #[.string T.name, .int .i64 T.tracks, .slice A T.labels.length c] rfl).alloc (.cells #[.int .i64 id, .int .i64 unit] 37)).alloc (.cells #[.string ⟨#[]⟩, .int .i64 0, .slice none 0 0] 34)
  have hrf0 := (Blk.new (w.alloc (.cells #[.string T.name, .int .i64 T.tracks, .slice A T.labels.length c] 34)) 37 #[.int .i64 id, .int .i64 unit] (n := w.heap.size + 1) (by simp)).alloc (.cells #[.string ⟨#[]⟩, .int .i64 0, .slice none 0 0] 34)
  have hz0 := Blk.new ((w.alloc (.cells #[.string T.name, .int .i64 T.tracks, .slice A T.labels.length c] 34)).alloc (.cells #[.int .i64 id, .int .i64 unit] 37)) 34 #[.string ⟨#[]⟩, .int .i64 0, .slice none 0 0] (n := w.heap.size + 1 + 1) (by simp)
  have HV := Lib.hid (valid_tab A c xs T _ (h.hold hg0) hs _ rfl)
  have HIX := Lib.hid (fun w2 (g2 : Grew w w2) k hk => cindex_any A c xs T id unit w2 (h.hold g2) hs _ rfl k hk)
  have HCL := Lib.hid (fun w2 (g2 : Grew w w2) => clone_tab A c xs T w2 (h.hold g2) hs _ rfl)
  have HNM := Lib.hid (show T.name.size ≤ 9223372036854775807 ∧ -9223372036854775808 ≤ T.tracks ∧ T.tracks ≤ 9223372036854775807 from ⟨h.name, h.tr0, h.tr1⟩)
  have HCC := Lib.hid HC
  have HG0 := Lib.hid hg0
  have HB0 := Lib.hid hb0
  have HRF := Lib.hid hrf0
  have HZ0 := Lib.hid hz0
  clear h hs HC hg0 hb0 hrf0 hz0
  rcases chgT_cases T id unit F with ⟨hv, hx⟩ | ⟨hv, hi, hx⟩ | ⟨hv, k, hk, hi, hhit, hx⟩
  · rw [hx] at hr
    injection hr with h1 h2
    subst h1; subst h2
    have HVF := Lib.hid hv
    clear hv hx
    go_enter Try.func37, Try.ntmps37
    go_wp2_with fail
    refine HV.out.mono ?_
    rintro e w1 ⟨rfl, g1⟩
    rw [HVF.out]
    have hz1 := HZ0.out.grew g1
    have z0 := hz1.cell 0
    have z1 := hz1.cell 1
    have z2 := hz1.cell 2
    have f0 := hz1.frozen 0
    have f1 := hz1.frozen 1
    have f2 := hz1.frozen 2
    have hzl := hz1.lt
    have hg1 := HG0.out.trans g1
    clear hz1 g1
    go_wp2_with fail
    refine bodyPost_ret (by first | (simp [*, results, Try.results37, go_sem]; rfl) | simp [*, results, Try.results37, go_sem]) rfl ?_
    exact ⟨none, 0, [], rfl, TabAt.zero _, by (repeat' first | (with_reducible exact Grew.refl _) | (with_reducible assumption) | (with_reducible refine Grew.alloc ?_ _) | (with_reducible refine Grew.drew ?_) | (with_reducible refine Grew.drewN ?_ _) | (with_reducible refine Grew.setRow ?_ (by first | (simp; done) | (simp; omega) | omega) _) | (with_reducible refine Grew.setCell ?_ (by first | (simp; done) | (simp; omega) | omega) _) | ((with_reducible apply Grew.trans); rotate_left; (with_reducible assumption)) | ((with_reducible apply Grew.turn); rotate_left; (with_reducible assumption); (focus (intro i hi; first | omega | (simp at hi; omega)))) | fail)⟩
  · rw [hx] at hr
    injection hr with h1 h2
    subst h1; subst h2
    have HVF := Lib.hid hv
    have HI := Lib.hid hi
    clear hv hx hi
    go_enter Try.func37, Try.ntmps37
    go_wp2_with fail
    refine HV.out.mono ?_
    rintro e w1 ⟨rfl, g1⟩
    rw [HVF.out]
    have hb1 := HB0.out.grew g1
    have b0 := hb1.cell 0
    have b1 := hb1.cell 1
    have b2 := hb1.cell 2
    have hbl := hb1.lt
    have hr1 := HRF.out.grew g1
    have r0 := hr1.cell 0
    have r1 := hr1.cell 1
    have hrl := hr1.lt
    have HG1 := Lib.hid (HG0.out.trans g1)
    have HZ1 := Lib.hid (HZ0.out.grew g1)
    clear hb1 hr1 g1
    go_wp2_with fail
    refine (HIX.out w1 HG1.out _ HI.out).mono ?_
    rintro e w2 ⟨rfl, g2⟩
    have hz1 := HZ1.out.grew g2
    have z0 := hz1.cell 0
    have z1 := hz1.cell 1
    have z2 := hz1.cell 2
    have f0 := hz1.frozen 0
    have f1 := hz1.frozen 1
    have f2 := hz1.frozen 2
    have hzl := hz1.lt
    have hg1 := HG1.out.trans g2
    clear hz1 g2 b0 b1 b2 r0 r1
    go_wp2_with fail
    refine bodyPost_ret (by first | (simp [*, results, Try.results37, go_sem]; rfl) | simp [*, results, Try.results37, go_sem]) rfl ?_
    exact ⟨none, 0, [], rfl, TabAt.zero _, by (repeat' first | (with_reducible exact Grew.refl _) | (with_reducible assumption) | (with_reducible refine Grew.alloc ?_ _) | (with_reducible refine Grew.drew ?_) | (with_reducible refine Grew.drewN ?_ _) | (with_reducible refine Grew.setRow ?_ (by first | (simp; done) | (simp; omega) | omega) _) | (with_reducible refine Grew.setCell ?_ (by first | (simp; done) | (simp; omega) | omega) _) | ((with_reducible apply Grew.trans); rotate_left; (with_reducible assumption)) | ((with_reducible apply Grew.turn); rotate_left; (with_reducible assumption); (focus (intro i hi; first | omega | (simp at hi; omega)))) | fail)⟩
  · have HVF := Lib.hid hv
    have HI := Lib.hid hi
    have HHIT := Lib.hid hhit
    obtain ⟨⟨r1, r2⟩, hF⟩ : ∃ r, F k T.labels[k] = r := ⟨_, rfl⟩
    rw [hF] at hx
    have HF := Lib.hid hF
    have hkn : (k : Int) < (T.labels.length : Int) := by omega
    clear hv hi hhit hF
    go_enter Try.func37, Try.ntmps37
    go_wp2_with fail
    refine HV.out.mono ?_
    rintro e w1 ⟨rfl, g1⟩
    rw [HVF.out]
    have hb1 := HB0.out.grew g1
    have b0 := hb1.cell 0
    have b1 := hb1.cell 1
    have b2 := hb1.cell 2
    have hbl := hb1.lt
    have hrr1 := HRF.out.grew g1
    have rr0 := hrr1.cell 0
    have rr1 := hrr1.cell 1
    have hrl := hrr1.lt
    have HG1 := Lib.hid (HG0.out.trans g1)
    have HZ1 := Lib.hid (HZ0.out.grew g1)
    have HB1 := Lib.hid hb1
    clear hb1 hrr1 g1
    go_wp2_with fail
    refine (HIX.out w1 HG1.out _ HI.out).mono ?_
    rintro e w2 ⟨rfl, g2⟩
    have hb2 := HB1.out.grew g2
    clear b0 b1 b2 rr0 rr1
    have b0 := hb2.cell 0
    have b1 := hb2.cell 1
    have b2 := hb2.cell 2
    have hbl2 := hb2.lt
    have HG2 := Lib.hid (HG1.out.trans g2)
    have HZ2 := Lib.hid (HZ1.out.grew g2)
    clear hb2 g2
    go_wp2_with fail
    refine (HCL.out w2 HG2.out).mono ?_
    rintro e w3 ⟨v, ys, rfl, hto, g3⟩
    obtain ⟨g, cap, rfl, hgb, hgs⟩ : ∃ g cap, v = .slice (some ⟨g, 0, none⟩) T.labels.length cap ∧ w2.heap.size ≤ g ∧ g < w3.heap.size := by
      rcases hto.own.form with ⟨_, h0⟩ | ⟨g, cap, hv, h1, h2, _⟩
      · have := congrArg List.length h0; rw [List.length_map, hto.len, List.length_nil] at this; omega
      · rw [List.length_map, hto.len] at hv; exact ⟨g, cap, hv, h1, h2⟩
    have hgx : Grew w3 (w3.alloc (.cells #[.string T.name, .int .i64 T.tracks, .slice (some ⟨g, 0, none⟩) T.labels.length cap] 34)) := (Grew.refl w3).alloc _
    have hg3 := HG2.out.trans g3
    have hz2 := HZ2.out.lt
    have hOut : OutAt w (w3.alloc (.cells #[.string T.name, .int .i64 T.tracks, .slice (some ⟨g, 0, none⟩) T.labels.length cap] 34)) w2.heap.size g cap w3.heap.size ys T :=
      ⟨hg3.trans hgx, by omega, hg3.size, by omega, hto.hold hgx, Blk.new w3 _ _ rfl⟩
    have HCA := Lib.hid (HCC.out _ _ _ _ _ _ k hk HHIT.out hOut)
    have hl1 : k < cap := by have := hto.own.len.2.1; omega
    have HZ3 := Lib.hid ((HZ2.out.grew g3).grew hgx)
    have HG3 := Lib.hid (hg3.trans hgx)
    have HOB := Lib.hid hOut.blk
    have hgne : ¬ w.heap.size + 1 + 1 = g := by omega
    have hxne : ¬ w3.heap.size = g := by omega
    have hzx : w.heap.size + 1 + 1 < w3.heap.size := Nat.lt_of_lt_of_le hz2 g3.size
    have hgw : w.heap.size ≤ g := by omega
    rw [HF.out] at HCA
    clear hto hgx hg3 hOut g3 b0 b1 b2
    go_wp2_with fail
    refine HCA.out.mono ?_
    rintro e w4 ⟨rfl, ⟨ys4, ht4⟩, tu4⟩
    have hz4 := HZ3.out.turned tu4 hgne
    have ho4 := HOB.out.turned tu4 hxne
    have z0 := hz4.cell 0
    have z1 := hz4.cell 1
    have z2 := hz4.cell 2
    have f0 := hz4.frozen 0
    have f1 := hz4.frozen 1
    have f2 := hz4.frozen 2
    have o0 := ho4.cell 0
    have o1 := ho4.cell 1
    have o2 := ho4.cell 2
    have hzl := hz4.lt
    have hol := ho4.lt
    have hg4 : Grew w w4 := HG3.out.turn tu4 (fun i e => by omega)
    have hap := ht4.apart hz4
    have HT4 := Lib.hid ht4
    have HAP := Lib.hid hap
    have HN4 := Lib.hid ht4.nlen
    clear hz4 ho4 tu4 ht4 hap HCA
    rcases hx with ⟨h0, hx⟩ | ⟨h0, hx⟩
    · try simp only at h0
      subst h0
      rw [hx] at hr
      injection hr with h1 h2
      subst h2
      have HT' := Lib.hid h1
      clear hx h1
      go_wp2_with fail
      refine bodyPost_ret (by first | (simp [*, results, Try.results37, go_sem]; rfl) | simp [*, results, Try.results37, go_sem]) rfl ?_
      refine ⟨some ⟨g, 0, none⟩, cap, ys4, by rw [← HT'.out]; simp only [HN4.out], ?_, by (repeat' first | (with_reducible exact Grew.refl _) | (with_reducible assumption) | (with_reducible refine Grew.alloc ?_ _) | (with_reducible refine Grew.drew ?_) | (with_reducible refine Grew.drewN ?_ _) | (with_reducible refine Grew.setRow ?_ (by first | (simp; done) | (simp; omega) | omega) _) | (with_reducible refine Grew.setCell ?_ (by first | (simp; done) | (simp; omega) | omega) _) | ((with_reducible apply Grew.trans); rotate_left; (with_reducible assumption)) | ((with_reducible apply Grew.turn); rotate_left; (with_reducible assumption); (focus (intro i hi; first | omega | (simp at hi; omega)))) | fail)⟩
      rw [← HT'.out]
      exact (HT4.out.turned (S := fun k => k = w.heap.size + 1 + 1) (by (repeat' first | (with_reducible exact Turned.refl _ _) | (with_reducible assumption) | (with_reducible refine Turned.alloc ?_ _) | (with_reducible refine Turned.drew ?_) | (with_reducible refine Turned.drewN ?_ _) | (with_reducible refine Turned.setRow ?_ (by first | (simp; done) | (simp; omega) | omega) _) | (with_reducible refine Turned.setCell ?_ (by first | (simp; done) | (simp; omega) | omega) _) | ((with_reducible apply Turned.andGrew); rotate_left; (with_reducible assumption)) | ((with_reducible apply Turned.trans); rotate_left; (with_reducible assumption)) | fail)) (fun g' e => by have e' : g = g' := Option.some.inj e; omega) (fun y hy h0 b off e => HAP.out y hy h0 b off e)).tabAt _ _ HNM.out.1 HNM.out.2.1 HNM.out.2.2
    · try simp only at h0 hx
      rw [hx] at hr
      injection hr with h1 h2
      subst h1; subst h2
      have hne : (r2 != 0) = true := by rw [bne_iff_ne]; exact h0
      clear hx h0
      go_wp2_with fail
      refine bodyPost_ret (by first | (simp [*, results, Try.results37, go_sem]; rfl) | simp [*, results, Try.results37, go_sem]) rfl ?_
      exact ⟨none, 0, [], rfl, TabAt.zero _, by (repeat' first | (with_reducible exact Grew.refl _) | (with_reducible assumption) | (with_reducible refine Grew.alloc ?_ _) | (with_reducible refine Grew.drew ?_) | (with_reducible refine Grew.drewN ?_ _) | (with_reducible refine Grew.setRow ?_ (by first | (simp; done) | (simp; omega) | omega) _) | (with_reducible refine Grew.setCell ?_ (by first | (simp; done) | (simp; omega) | omega) _) | ((with_reducible apply Grew.trans); rotate_left; (with_reducible assumption)) | ((with_reducible apply Grew.turn); rotate_left; (with_reducible assumption); (focus (intro i hi; first | omega | (simp at hi; omega)))) | fail)⟩
end
end Go.Proofs.Ytnlaogneceanoaa
