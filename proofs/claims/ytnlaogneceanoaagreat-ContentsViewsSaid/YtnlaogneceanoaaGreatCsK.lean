/- Chapter 8: Extend and Release of chapter 6, once more: what they return is new. Chapter 8: what the changes do with a label. Chapter 8: what Replace and Confirm do with a label. Chapter 8: what Confirm does with a label. A slice of the call's own, cut to its first elements; 'clear' on the others. Chapter 8: change, and the changes of one label. Chapter 8: Extend, Release, Replace, Confirm, Note, Remove. Chapter 8: Create. Chapter 8: Sector, on both sides; awake's tables. -/
import Derived.Laws.CopyRow
import Derived.Test.YtnlaogneceanoaaGreatCsA
import Derived.Test.YtnlaogneceanoaaGreatCsF
namespace Go.Proofs.YtnlaogneceanoaaGreat
set_option linter.unusedVariables false
set_option linter.unusedSimpArgs false
set_option linter.unusedSectionVars false
open Go.RowKit
/-- Runs in a slice that is newer than w. -/
def NewRuns (w w' : World) (A : Option Addr) (c : Nat) (k : List (Int × Int)) : Prop := RunsAt w' w'.heap.size A k ∧ k.length ≤ c ∧ c ≤ 9223372036854775807 ∧ ∀ b off, A = some ⟨b, off, none⟩ → w.heap.size ≤ b
theorem NewRuns.nil (w w' : World) : NewRuns w w' none 0 [] := ⟨nil_runs w', Nat.le_refl _, by omega, fun b off e => by cases e⟩
theorem NewRuns.of_own {w w' : World} {v : Value} {l : List (Nat × Nat)} {k : List (Int × Int)} (h : OwnL w' w.heap.size 65 2 v (l.map rowN)) (hb : ∀ r ∈ l, r.1 + r.2 ≤ 128) (hk : ints l = k) : ∃ A c, v = .slice A k.length c ∧ NewRuns w w' A c k := by
  obtain ⟨A, c, hv, hr, h1, h2, h3⟩ := own_runs2 h (fun r hr => Nat.le_trans (hb r hr) (by omega))
  subst hk
  exact ⟨A, c, by rw [ints_len]; exact hv, hr, by rw [ints_len]; exact h1, h2, fun b off e => (h3 b off e).1⟩
section
variable {A : Option Addr} {c m : Nat} {l : List (Int × Int)} {w : World}
theorem alloc_new (hn : m = l.length) (hl : l.length ≤ 1000000) (hr : RunsAt w w.heap.size A l) (n : Int) (n0 : -9223372036854775808 ≤ n) (n1 : n ≤ 9223372036854775807) (most : Int) (k : List (Int × Int)) (er : Int) (hk : ints (allocS (memS l) n most).1 = k) (he : (allocS (memS l) n most).2 = er) :
    Calls Tryz.prog 88 #[.slice A m c, .int .i64 n, .int .i64 most] w fun e w' => ∃ A c, e = .returned (.tuple #[.slice A k.length c, .int .i64 er]) ∧ NewRuns w w' A c k ∧ Grew w w' := by
  subst hn; subst he
  refine (alloc_any A c l w w.heap.size (Nat.le_refl _) hl hr n n0 n1 most).mono ?_
  rintro e w1 ⟨v, rfl, hown, g1⟩
  obtain ⟨A', c', hv, hr'⟩ := NewRuns.of_own hown (alloc_bd _ _ _) hk
  exact ⟨A', c', by rw [hv], hr', g1⟩
theorem NewRuns.hold {w w1 w2 : World} {k : List (Int × Int)} (h : NewRuns w w1 A c k) (hg : Grew w1 w2) : NewRuns w w2 A c k := ⟨h.1.hold hg, h.2⟩
end
end Go.Proofs.YtnlaogneceanoaaGreat
namespace Go.Proofs.YtnlaogneceanoaaGreat
set_option linter.unusedVariables false
set_option linter.unusedSimpArgs false
set_option linter.unusedSectionVars false
open Go.RowKit
attribute [local go_sem ↓] Go.wp_at_zero Go.wp_at_succ
def chCon (T : Tab) (id : Int) (note : ByteArray) (k : Nat) (l : Lab) : List Lab × Int :=
  if l.unit = 0 then (T.labels, 9) else if 400 < note.size then (T.labels, 1)
  else ((if 0 ≤ idxT T id 0 then T.labels.set (idxT T id 0).toNat labZ else T.labels).set k { l with unit := 0, note := note }, 0)
def chgT (T : Tab) (id unit : Int) (F : Nat → Lab → List Lab × Int) : Tab × Int :=
  if validT T = true then
    if 0 ≤ idxT T id unit then
      (if (F (idxT T id unit).toNat (T.labels.getD (idxT T id unit).toNat labZ)).2 = 0 then ({ T with labels := (F (idxT T id unit).toNat (T.labels.getD (idxT T id unit).toNat labZ)).1 }, 0) else (tabZ, (F (idxT T id unit).toNat (T.labels.getD (idxT T id unit).toNat labZ)).2))
    else (tabZ, 6)
  else (tabZ, 1)
/-- Where a changed table lies while it is changed: its labels in block g, the variable itself in block xo. -/
structure OutAt (w w1 : World) (base g cap xo : Nat) (ys : List LabE) (T : Tab) : Prop where
  grew : Grew w w1
  hg : w.heap.size ≤ g
  hx : w.heap.size ≤ xo
  ne : xo ≠ g
  tab : TabO w1 base (.slice (some ⟨g, 0, none⟩) T.labels.length cap) ys T.labels
  blk : Blk w1 xo 24 #[.string T.name, .int .i64 T.tracks, .slice (some ⟨g, 0, none⟩) T.labels.length cap]
/-- A closure's contract: it makes labels and an error of a label. -/
def ChgR (w1 : World) (base g cap n : Nat) (r : List Lab × Int) (e : Ending) (w2 : World) : Prop :=
  e = .returned (.int .i64 r.2) ∧ (∃ ys, TabO w2 base (.slice (some ⟨g, 0, none⟩) n cap) ys r.1) ∧ Turned (fun x => x = g) w1 w2
theorem TabO.row {w : World} {base g n cap : Nat} {ys : List LabE} {ls : List Lab} (h : TabO w base (.slice (some ⟨g, 0, none⟩) n cap) ys ls) {k : Nat} (hk : k < ls.length) :
    ∃ B d, (ys.map labC)[k]? = some (labC ⟨B, d, ls[k]⟩) ∧ LabAt w B d ls[k] ∧ (0 < ls[k].ext.length → ∀ b off, B = some ⟨b, off, none⟩ → b ≠ g) ∧ ys[k]? = some ⟨B, d, ls[k]⟩ := by
  have hy : k < ys.length := by rw [h.len]; exact hk
  have h1 : (ys.map (·.l))[k]? = some ys[k].l := by rw [List.getElem?_map, List.getElem?_eq_getElem hy]; rfl
  rw [h.eq, List.getElem?_eq_getElem hk] at h1
  have h2 := Option.some.inj h1
  have h3 : ys[k] = ⟨ys[k].A, ys[k].c, ls[k]⟩ := by rw [h2]
  refine ⟨ys[k].A, ys[k].c, by rw [List.getElem?_map, List.getElem?_eq_getElem hy, ← h3]; rfl, by rw [h2]; exact h.lab _ (List.getElem_mem hy), fun h0 b off e => ?_, by rw [List.getElem?_eq_getElem hy, ← h3]⟩
  have := h.far ys[k] (List.getElem_mem hy) (by rw [← h2]; exact h0) b off e
  intro e2
  exact this (by rw [e2]; rfl)
theorem OwnL.cell0 {w : World} {base e sz g n cap : Nat} {rows : List (List Value)} (h : OwnL w base e sz (.slice (some ⟨g, 0, none⟩) n cap) rows) {j : Nat} {r : List Value} {u : Value} (hj : rows[j]? = some r) (hi : r[0]? = some u) : w.cell? ⟨g, j * sz, none⟩ = some u := h.cell hj hi
theorem OwnL.block_lt {w : World} {base e sz g n cap : Nat} {rows : List (List Value)} (h : OwnL w base e sz (.slice (some ⟨g, 0, none⟩) n cap) rows) : base ≤ g ∧ g < w.heap.size := h.own_ge rfl
theorem set_turned (w : World) (g o : Nat) (u : Value) : Turned (fun x => x = g) w (w.setCell ⟨g, o, none⟩ u) := (Turned.refl (fun x => x = g) w).setCell (p := ⟨g, o, none⟩) (fun _ => rfl) u
/-- One cell of one label is another one now. -/
theorem TabO.field {w : World} {base g n cap : Nat} {ys : List LabE} {ls : List Lab} (h : TabO w base (.slice (some ⟨g, 0, none⟩) n cap) ys ls) {k : Nat} (hk : k < ls.length) {B : Option Addr} {d : Nat} (hrow : (ys.map labC)[k]? = some (labC ⟨B, d, ls[k]⟩)) (i : Nat) (hi : i < 5) (u : Value) (y : LabE) (hy : labC y = (labC ⟨B, d, ls[k]⟩).set i u)
    (hl : LabAt w y.A y.c y.l) (hf : 0 < y.l.ext.length → ∀ b off, y.A = some ⟨b, off, none⟩ → b ≠ g) : TabO (w.setCell ⟨g, k * 5 + i, none⟩ u) base (.slice (some ⟨g, 0, none⟩) n cap) (ys.set k y) (ls.set k y.l) :=
  h.set_ k y hk (by rw [hy]; exact h.own.set_ hrow hi rfl u) (set_turned w g _ u) (hl.turned (set_turned w g _ u) (fun h0 b off e => hf h0 b off e)) hf
theorem TabO.after {w : World} {base g n cap : Nat} {ys : List LabE} {ls : List Lab} {k : Nat} {y : LabE} (hk : k < ys.length) : ((ys.set k y).map labC)[k]? = some (labC y) := by
  rw [List.getElem?_map, List.getElem?_set_self hk]; rfl
/-- A whole label of the own slice is stored anew, cell by cell. -/
theorem OwnL.set5 {w : World} {base e g n cap : Nat} {rows : List (List Value)} (h : OwnL w base e 5 (.slice (some ⟨g, 0, none⟩) n cap) rows) {j : Nat} {r : List Value} (hj : rows[j]? = some r) (a b c d f : Value) :
    OwnL (((((w.setCell ⟨g, j * 5, none⟩ a).setCell ⟨g, j * 5 + 1, none⟩ b).setCell ⟨g, j * 5 + 2, none⟩ c).setCell ⟨g, j * 5 + 3, none⟩ d).setCell ⟨g, j * 5 + 4, none⟩ f) base e 5 (.slice (some ⟨g, 0, none⟩) n cap) (rows.set j [a, b, c, d, f]) := by
  have hl : r.length = 5 := h.1 r (List.mem_of_getElem? hj)
  have hlt : j < rows.length := (List.getElem?_eq_some_iff.1 hj).1
  have h0 := h.set_ (i := 0) (o := j * 5) hj (by omega) rfl a
  have h1 := h0.set_ (i := 1) (o := j * 5 + 1) (List.getElem?_set_self hlt) (by omega) rfl b
  rw [List.set_set] at h1
  have h2 := h1.set_ (i := 2) (o := j * 5 + 2) (List.getElem?_set_self hlt) (by omega) rfl c
  rw [List.set_set] at h2
  have h3 := h2.set_ (i := 3) (o := j * 5 + 3) (List.getElem?_set_self hlt) (by omega) rfl d
  rw [List.set_set] at h3
  have h4 := h3.set_ (i := 4) (o := j * 5 + 4) (List.getElem?_set_self hlt) (by omega) rfl f
  rw [List.set_set] at h4
  match r, hl with
  | [r0, r1, r2, r3, r4], _ => exact h4
theorem set5_turned (w : World) (g o : Nat) (a b c d f : Value) : Turned (fun x => x = g) w (((((w.setCell ⟨g, o, none⟩ a).setCell ⟨g, o + 1, none⟩ b).setCell ⟨g, o + 2, none⟩ c).setCell ⟨g, o + 3, none⟩ d).setCell ⟨g, o + 4, none⟩ f) :=
  ((((set_turned w g _ a).trans (set_turned _ g _ b)).trans (set_turned _ g _ c)).trans (set_turned _ g _ d)).trans (set_turned _ g _ f)
theorem TabO.set5 {w : World} {base g n cap : Nat} {ys : List LabE} {ls : List Lab} (h : TabO w base (.slice (some ⟨g, 0, none⟩) n cap) ys ls) {k : Nat} (hk : k < ls.length) (y : LabE)
    (hl : LabAt w y.A y.c y.l) (hf : 0 < y.l.ext.length → ∀ b off, y.A = some ⟨b, off, none⟩ → b ≠ g) :
    TabO (((((w.setCell ⟨g, k * 5, none⟩ (.int .i64 y.l.id)).setCell ⟨g, k * 5 + 1, none⟩ (.int .i64 y.l.unit)).setCell ⟨g, k * 5 + 2, none⟩ (.string y.l.name)).setCell ⟨g, k * 5 + 3, none⟩ (.string y.l.note)).setCell ⟨g, k * 5 + 4, none⟩ (.slice y.A y.l.ext.length y.c)) base (.slice (some ⟨g, 0, none⟩) n cap) (ys.set k y) (ls.set k y.l) := by
  obtain ⟨B, d, hrow, _, _, _⟩ := h.row hk
  exact h.set_ k y hk (h.own.set5 hrow _ _ _ _ _) (set5_turned w g _ _ _ _ _ _) (hl.turned (set5_turned w g _ _ _ _ _ _) (fun h0 b off e => hf h0 b off e)) hf
section
variable (w w1 : World) (base g cap xo : Nat) (ys : List LabE) (T : Tab) (k : Nat) (hk : k < T.labels.length) (h : OutAt w w1 base g cap xo ys T)
include h
end
end Go.Proofs.YtnlaogneceanoaaGreat
namespace Go.Proofs.YtnlaogneceanoaaGreat
set_option linter.unusedVariables false
set_option linter.unusedSimpArgs false
set_option linter.unusedSectionVars false
open Go.RowKit
attribute [local go_sem ↓] Go.wp_at_zero Go.wp_at_succ
theorem TabO.row0 {w : World} {base g n cap : Nat} {ys : List LabE} {ls : List Lab} (h : TabO w base (.slice (some ⟨g, 0, none⟩) n cap) ys ls) {k : Nat} (hk : k < ls.length) : w.cell? ⟨g, k * 5, none⟩ = some (.int .i64 ls[k].id) := by
  obtain ⟨B, d, hrow, _, _, _⟩ := h.row hk
  exact h.own.cell0 hrow rfl
theorem TabO.row1 {w : World} {base g n cap : Nat} {ys : List LabE} {ls : List Lab} (h : TabO w base (.slice (some ⟨g, 0, none⟩) n cap) ys ls) {k : Nat} (hk : k < ls.length) : w.cell? ⟨g, k * 5 + 1, none⟩ = some (.int .i64 ls[k].unit) := by
  obtain ⟨B, d, hrow, _, _, _⟩ := h.row hk
  exact h.own.cell hrow (i := 1) rfl
theorem TabO.row3 {w : World} {base g n cap : Nat} {ys : List LabE} {ls : List Lab} (h : TabO w base (.slice (some ⟨g, 0, none⟩) n cap) ys ls) {k : Nat} (hk : k < ls.length) : w.cell? ⟨g, k * 5 + 3, none⟩ = some (.string ls[k].note) := by
  obtain ⟨B, d, hrow, _, _, _⟩ := h.row hk
  exact h.own.cell hrow (i := 3) rfl
theorem TabO.unit_ {w : World} {base g n cap : Nat} {ys : List LabE} {ls : List Lab} (h : TabO w base (.slice (some ⟨g, 0, none⟩) n cap) ys ls) {k : Nat} (hk : k < ls.length) (u : Int) (hu : -9223372036854775808 ≤ u ∧ u ≤ 9223372036854775807) : ∃ ys', TabO (w.setCell ⟨g, k * 5 + 1, none⟩ (.int .i64 u)) base (.slice (some ⟨g, 0, none⟩) n cap) ys' (ls.set k { ls[k] with unit := u }) := by
  obtain ⟨B, d, hrow, hla, hfar, _⟩ := h.row hk
  exact ⟨_, h.field hk hrow 1 (by decide) (.int .i64 u) ⟨B, d, { ls[k] with unit := u }⟩ rfl ⟨hla.id0, hla.id1, hu.1, hu.2, hla.name, hla.note, hla.runs, hla.len, hla.cap⟩ hfar⟩
theorem TabO.note_ {w : World} {base g n cap : Nat} {ys : List LabE} {ls : List Lab} (h : TabO w base (.slice (some ⟨g, 0, none⟩) n cap) ys ls) {k : Nat} (hk : k < ls.length) (u : ByteArray) (hu : u.size ≤ 9223372036854775807) : ∃ ys', TabO (w.setCell ⟨g, k * 5 + 3, none⟩ (.string u)) base (.slice (some ⟨g, 0, none⟩) n cap) ys' (ls.set k { ls[k] with note := u }) := by
  obtain ⟨B, d, hrow, hla, hfar, _⟩ := h.row hk
  exact ⟨_, h.field hk hrow 3 (by decide) (.string u) ⟨B, d, { ls[k] with note := u }⟩ rfl ⟨hla.id0, hla.id1, hla.unit0, hla.unit1, hla.name, hu, hla.runs, hla.len, hla.cap⟩ hfar⟩
theorem TabO.tabAt {w : World} {base g n cap : Nat} {ys : List LabE} {ls : List Lab} (h : TabO w base (.slice (some ⟨g, 0, none⟩) n cap) ys ls) (nm : ByteArray) (t : Int) (hn : nm.size ≤ 9223372036854775807) (t0 : -9223372036854775808 ≤ t) (t1 : t ≤ 9223372036854775807) : TabAt w (some ⟨g, 0, none⟩) cap ys ⟨nm, t, ls⟩ := by
  obtain ⟨A, c, hv, ht⟩ := h.form
  injection hv with h1 _ h3
  rw [h1, h3]
  exact ht nm t hn t0 t1
section
variable (w w1 : World) (base g cap xo : Nat) (ys : List LabE) (T : Tab) (k : Nat) (hk : k < T.labels.length) (h : OutAt w w1 base g cap xo ys T)
include h
end
end Go.Proofs.YtnlaogneceanoaaGreat
namespace Go.Proofs.YtnlaogneceanoaaGreat
set_option linter.unusedVariables false
set_option linter.unusedSimpArgs false
set_option linter.unusedSectionVars false
open Go.RowKit
attribute [local go_sem ↓] Go.wp_at_zero Go.wp_at_succ
theorem TabO.drew {w : World} {base : Nat} {v : Value} {ys : List LabE} {ls : List Lab} (h : TabO w base v ys ls) : TabO w.drew base v ys ls := h.hold (Grew.refl w).drew
section
variable (w w1 : World) (base g cap xo : Nat) (ys : List LabE) (T : Tab) (k : Nat) (hk : k < T.labels.length) (h : OutAt w w1 base g cap xo ys T)
include h
set_option maxRecDepth 100000 in
set_option maxHeartbeats 8000000 in
theorem confirm1_any (hs : SmallT T) (hn0 : T.name.size ≤ 9223372036854775807) (ht0 : -9223372036854775808 ≤ T.tracks) (ht1 : T.tracks ≤ 9223372036854775807) (note : ByteArray) (hns : note.size ≤ 9223372036854775807) (id unit : Int) (gn gr : Nat) (hbn : Blk w gn 9 #[.string note]) (hbr : Blk w gr 26 #[.int .i64 id, .int .i64 unit]) :
    Calls Tryz.prog 91 #[.pointer (some ⟨g, k * 5, none⟩), .pointer (some ⟨xo, 0, none⟩), .pointer (some ⟨gn, 0, none⟩), .pointer (some ⟨gr, 0, none⟩)] w1 (ChgR w1 base g cap T.labels.length (chCon T id note k T.labels[k])) := by
  have hbn1 := hbn.grew h.grew
  have hbr1 := hbr.grew h.grew
  have hg1 := h.tab.own.block_lt.2
  have hxo := h.blk.lt
  have hgn := hbn1.lt
  have hgr := hbr1.lt
  have hne := h.ne
  have hgng : ¬ gn = g := by have := h.hg; have := hbn.lt; omega
  have hgrg : ¬ gr = g := by have := h.hg; have := hbr.lt; omega
  have y0 : w1.cell? ⟨g, k * 5, none⟩ = some (.int .i64 T.labels[k].id) := h.tab.row0 hk
  have y1 : w1.cell? ⟨g, k * 5 + 1, none⟩ = some (.int .i64 T.labels[k].unit) := h.tab.row1 hk
  have n0 := hbn1.cell 0
  have r0 := hbr1.cell 0
  have HTAB := Lib.hid h.tab
  have HBO := Lib.hid h.blk
  have HBN := Lib.hid hbn1
  have HBR := Lib.hid hbr1
  have HC := Lib.hid (show chCon T id note k T.labels[k] = if T.labels[k].unit = 0 then (T.labels, 9) else if 400 < note.size then (T.labels, 1)
  else ((if 0 ≤ idxT T id 0 then T.labels.set (idxT T id 0).toNat labZ else T.labels).set k { T.labels[k] with unit := 0, note := note }, 0) from rfl)
  have hxs := h.blk
  clear h hbn hbr hbn1 hbr1
  cases hu : (T.labels[k].unit == 0) with
  | true =>
    have HE := Lib.hid (HC.out.trans (if_pos (by simpa using hu)))
    clear hxs
    go_enter Tryz.func91, Tryz.ntmps91
    go_wp2_with fail
    go_ret
    rw [HE.out]
    exact ⟨rfl, ⟨_, HTAB.out⟩, by (repeat' first | (with_reducible exact Turned.refl _ _) | (with_reducible assumption) | (with_reducible refine Turned.alloc ?_ _) | (with_reducible refine Turned.drew ?_) | (with_reducible refine Turned.drewN ?_ _) | (with_reducible refine Turned.setRow ?_ (by first | (simp; done) | (simp; omega) | omega) _) | (with_reducible refine Turned.setCell ?_ (by first | (simp; done) | (simp; omega) | omega) _) | ((with_reducible apply Turned.andGrew); rotate_left; (with_reducible assumption)) | ((with_reducible apply Turned.trans); rotate_left; (with_reducible assumption)) | fail)⟩
  | false =>
    have hu' : T.labels[k].unit ≠ 0 := by simpa using hu
    by_cases hn : 400 < note.size
    · have HE := Lib.hid (HC.out.trans (by rw [if_neg hu', if_pos hn]))
      have hni : (note.size : Int) > 400 := by omega
      clear hxs
      go_enter Tryz.func91, Tryz.ntmps91
      go_wp2_with fail
      go_ret
      rw [HE.out]
      exact ⟨rfl, ⟨_, HTAB.out⟩, by (repeat' first | (with_reducible exact Turned.refl _ _) | (with_reducible assumption) | (with_reducible refine Turned.alloc ?_ _) | (with_reducible refine Turned.drew ?_) | (with_reducible refine Turned.drewN ?_ _) | (with_reducible refine Turned.setRow ?_ (by first | (simp; done) | (simp; omega) | omega) _) | (with_reducible refine Turned.setCell ?_ (by first | (simp; done) | (simp; omega) | omega) _) | ((with_reducible apply Turned.andGrew); rotate_left; (with_reducible assumption)) | ((with_reducible apply Turned.trans); rotate_left; (with_reducible assumption)) | fail)⟩
    have hni : ¬ (note.size : Int) > 400 := by omega
    obtain ⟨ix, hix⟩ : ∃ ix, idxT T id 0 = ix := ⟨_, rfl⟩
    have hTA := HTAB.out.tabAt T.name T.tracks hn0 ht0 ht1
    have HIX := Lib.hid (fun w2 (g2 : Grew w1 w2) => cindex_any _ _ _ T id 0 w2 (hTA.hold g2) hs T.labels.length rfl ix hix)
    have hS : (fun w' : World => w'.cell? ⟨xo, 0, none⟩ = some (.string T.name) ∧ w'.cell? ⟨xo, 1, none⟩ = some (.int .i64 T.tracks) ∧ w'.cell? ⟨xo, 2, none⟩ = some (.slice (some ⟨g, 0, none⟩) T.labels.length cap) ∧ w'.cell? ⟨gr, 0, none⟩ = some (.int .i64 id)) w1.drew := ⟨hxs.drew.cell 0, hxs.drew.cell 1, hxs.drew.cell 2, r0⟩
    rcases idxP_cases (hitL id 0) T.labels with ⟨j, hj, hj1, hj2, _⟩ | ⟨hj1, _⟩
    · have hij : ix = (j : Int) := hix.symm.trans hj1
      obtain ⟨_, _, hj3⟩ := (hitL_iff _ _ _).1 hj2
      have hjk : j ≠ k := by rintro rfl; exact hu' hj3
      subst hij
      have HE := Lib.hid (HC.out.trans (by rw [if_neg hu', if_neg hn, if_pos (by rw [hix]; omega), hix, Int.toNat_natCast]))
      have hjn : (j : Int) < (T.labels.length : Int) := by omega
      have HLK := Lib.hid (show (T.labels.set j labZ)[k]'(by simpa using hk) = T.labels[k] from List.getElem_set_ne hjk _)
      clear hix hTA hj1 hj2 hxs hu'
      go_enter Tryz.func91, Tryz.ntmps91
      go_wp2_with fail
      refine wp_region_R [] (fun w' : World => w'.cell? ⟨xo, 0, none⟩ = some (.string T.name) ∧ w'.cell? ⟨xo, 1, none⟩ = some (.int .i64 T.tracks) ∧ w'.cell? ⟨xo, 2, none⟩ = some (.slice (some ⟨g, 0, none⟩) T.labels.length cap) ∧ w'.cell? ⟨gr, 0, none⟩ = some (.int .i64 id)) (by kernel_rfl) ?_
      refine wpAnyR_takeQ (i := 0) (v := ?_) (some 16) rfl rfl (by kernel_rfl) (by kernel_rfl) (by kernel_rfl) (by kernel_rfl) (fun _ _ _ h => h) (Or.inl ⟨by rfl, ?_⟩) ?_
      rotate_left
      focus (intro wS hSw; (try dsimp only at hSw); go_simp; (try with_reducible rfl); (try (first | (rw [if_pos (by omega)]; (try go_simp); (try with_reducible rfl)) | (rw [if_neg (by omega)]; (try go_simp); (try with_reducible rfl)))))
      try simp only [Act.put, List.setIfInBounds_toArray, List.set_cons_zero, List.set_cons_succ]
      refine wpAnyR_take (i := 1) (v := ?_) [2, 6, 7] (some 17) rfl rfl (by kernel_rfl) (by kernel_rfl) (by kernel_rfl) (by kernel_rfl) (by kernel_rfl) (by kernel_rfl) (by kernel_rfl) (fun _ _ _ h => h) (Or.inl ⟨by rfl, ?_⟩) hS ?_
      rotate_left
      focus (intro wS hSw; (try dsimp only at hSw); go_simp; (try with_reducible rfl); (try (first | (rw [if_pos (by omega)]; (try go_simp); (try with_reducible rfl)) | (rw [if_neg (by omega)]; (try go_simp); (try with_reducible rfl)))))
      try simp only [Act.put, List.setIfInBounds_toArray, List.set_cons_zero, List.set_cons_succ]
      refine wpAnyR_take (i := 2) (v := ?_) [6, 7] (some 18) rfl rfl (by kernel_rfl) (by kernel_rfl) (by kernel_rfl) (by kernel_rfl) (by kernel_rfl) (by kernel_rfl) (by kernel_rfl) (fun _ _ _ h => h) (Or.inl ⟨by rfl, ?_⟩) hS ?_
      rotate_left
      focus (intro wS hSw; (try dsimp only at hSw); go_simp; (try with_reducible rfl); (try (first | (rw [if_pos (by omega)]; (try go_simp); (try with_reducible rfl)) | (rw [if_neg (by omega)]; (try go_simp); (try with_reducible rfl)))))
      try simp only [Act.put, List.setIfInBounds_toArray, List.set_cons_zero, List.set_cons_succ]
      refine wpAnyR_takeQ (i := 3) (v := ?_) (some 19) rfl rfl (by kernel_rfl) (by kernel_rfl) (by kernel_rfl) (by kernel_rfl) (fun _ _ _ h => h) (Or.inl ⟨by rfl, ?_⟩) ?_
      rotate_left
      focus (intro wS hSw; (try dsimp only at hSw); go_simp; (try with_reducible rfl); (try (first | (rw [if_pos (by omega)]; (try go_simp); (try with_reducible rfl)) | (rw [if_neg (by omega)]; (try go_simp); (try with_reducible rfl)))))
      try simp only [Act.put, List.setIfInBounds_toArray, List.set_cons_zero, List.set_cons_succ]
      refine wpAnyR_take (i := 4) (v := ?_) [5, 6, 7] (some 20) rfl rfl (by kernel_rfl) (by kernel_rfl) (by kernel_rfl) (by kernel_rfl) (by kernel_rfl) (by kernel_rfl) (by kernel_rfl) (fun _ _ _ h => h) (Or.inl ⟨by rfl, ?_⟩) hS ?_
      rotate_left
      focus (intro wS hSw; (try dsimp only at hSw); go_simp; (try with_reducible rfl); (try (first | (rw [if_pos (by omega)]; (try go_simp); (try with_reducible rfl)) | (rw [if_neg (by omega)]; (try go_simp); (try with_reducible rfl)))))
      try simp only [Act.put, List.setIfInBounds_toArray, List.set_cons_zero, List.set_cons_succ]
      refine wpAnyR_takeQ (i := 5) (v := ?_) (some 21) rfl rfl (by kernel_rfl) (by kernel_rfl) (by kernel_rfl) (by kernel_rfl) (fun _ _ _ h => h) (Or.inl ⟨by rfl, ?_⟩) ?_
      rotate_left
      focus (intro wS hSw; (try dsimp only at hSw); go_simp; (try with_reducible rfl); (try (first | (rw [if_pos (by omega)]; (try go_simp); (try with_reducible rfl)) | (rw [if_neg (by omega)]; (try go_simp); (try with_reducible rfl)))))
      try simp only [Act.put, List.setIfInBounds_toArray, List.set_cons_zero, List.set_cons_succ]
      refine wpAnyR_n1 (i := 6) rfl (by kernel_rfl) ?_
      intro K' hK
      rw [if_pos (by rfl)]
      simp only [List.getElem_toArray, List.getElem_cons_succ, List.getElem_cons_zero]
      go_wp2_with fail
      refine (HIX.out _ (Grew.refl w1).drew).mono ?_
      rintro e w2 ⟨rfl, g2⟩
      have g2' : Grew w1 w2 := (Grew.refl w1).drew.trans g2
      go_wp2_with fail
      refine hK.out _ _ (.inr (fun h => by
        simp only [g2'.cellEq _ _ hxo, g2'.cellEq _ _ hgr]
        exact hS)) ?_
      clear hK hS
      refine wpAnyR_takeQ (i := 7) (v := ?_) (some 7) rfl rfl (by kernel_rfl) (by kernel_rfl) (by kernel_rfl) (by kernel_rfl) (fun _ _ _ h => h) (Or.inl ⟨by rfl, ?_⟩) ?_
      rotate_left
      focus (intro wS hSw; (try dsimp only at hSw); go_simp; (try with_reducible rfl); (try (first | (rw [if_pos (by omega)]; (try go_simp); (try with_reducible rfl)) | (rw [if_neg (by omega)]; (try go_simp); (try with_reducible rfl)))))
      try simp only [Act.put, List.setIfInBounds_toArray, List.set_cons_zero, List.set_cons_succ]
      refine wpAnyR_done (by kernel_rfl) ?_ _
      have o2 := HBO.out.grew g2'
      have u0 := o2.cell 0
      have u1 := o2.cell 1
      have u2 := o2.cell 2
      have hxl2 := o2.lt
      have ht2 := HTAB.out.hold g2'
      obtain ⟨B2, d2, hrow2, _, _, _⟩ := ht2.row hj
      have a0 : w2.cell? ⟨g, j * 5, none⟩ = some (.int .i64 T.labels[j].id) := ht2.own.cell0 hrow2 rfl
      have a1 : w2.cell? ⟨g, j * 5 + 1, none⟩ = some (.int .i64 T.labels[j].unit) := ht2.own.cell hrow2 (i := 1) rfl
      have a2 : w2.cell? ⟨g, j * 5 + 2, none⟩ = some (.string T.labels[j].name) := ht2.own.cell hrow2 (i := 2) rfl
      have a3 : w2.cell? ⟨g, j * 5 + 3, none⟩ = some (.string T.labels[j].note) := ht2.own.cell hrow2 (i := 3) rfl
      have a4 : w2.cell? ⟨g, j * 5 + 4, none⟩ = some (.slice B2 T.labels[j].ext.length d2) := ht2.own.cell hrow2 (i := 4) rfl
      have af0 := ht2.own.frozen (j * 5)
      have af1 := ht2.own.frozen (j * 5 + 1)
      have af2 := ht2.own.frozen (j * 5 + 2)
      have af3 := ht2.own.frozen (j * 5 + 3)
      have af4 := ht2.own.frozen (j * 5 + 4)
      have HT3 := Lib.hid (ht2.set5 hj ⟨none, 0, labZ⟩ (LabAt.zero _) (fun h0 => absurd h0 (by decide)))
      have HTU3 := Lib.hid ((g2'.turned (fun x => x = g)).trans (set5_turned w2 g (j * 5) (.int .i64 0) (.int .i64 0) (.string ⟨#[]⟩) (.string ⟨#[]⟩) (.slice none 0 0)))
      have HB2 := Lib.hid (HBN.out.grew g2')
      clear ht2 hrow2 o2
      go_wp2_with fail
      obtain ⟨W, hW⟩ : ∃ W, W = ((((w2.setCell ⟨g, j * 5, none⟩ (.int .i64 0)).setCell ⟨g, j * 5 + 1, none⟩ (.int .i64 0)).setCell ⟨g, j * 5 + 2, none⟩ (.string ⟨#[]⟩)).setCell ⟨g, j * 5 + 3, none⟩ (.string ⟨#[]⟩)).setCell ⟨g, j * 5 + 4, none⟩ (.slice none 0 0) := ⟨_, rfl⟩
      rw [← hW]
      obtain ⟨ys3, HT3'⟩ : ∃ ys3, TabO W base (.slice (some ⟨g, 0, none⟩) T.labels.length cap) ys3 (T.labels.set j labZ) := ⟨_, by rw [hW]; exact HT3.out⟩
      have HTW : Turned (fun x => x = g) w1 W := by rw [hW]; exact HTU3.out
      have HBW : Blk W gn 9 #[.string note] := HBN.out.turned HTW hgng
      have hk' : k < (T.labels.set j labZ).length := by simpa using hk
      have hk2 : (T.labels.set j labZ)[k]'hk' = T.labels[k] := by first | exact HLK.out | rfl
      have ht3 := HT3'
      have z0 : W.cell? ⟨g, k * 5, none⟩ = some (.int .i64 T.labels[k].id) := by rw [← hk2]; exact ht3.row0 hk'
      have z1 : W.cell? ⟨g, k * 5 + 1, none⟩ = some (.int .i64 T.labels[k].unit) := by rw [← hk2]; exact ht3.row1 hk'
      have zf1 := ht3.own.frozen (k * 5 + 1)
      have hg3 := ht3.own.block_lt.2
      obtain ⟨ys4, ht4⟩ := ht3.drew.unit_ hk' 0 (by omega)
      have hk4 : k < ((T.labels.set j labZ).set k { (T.labels.set j labZ)[k]'hk' with unit := 0 }).length := by simpa using hk
      have hk5 : ((T.labels.set j labZ).set k { (T.labels.set j labZ)[k]'hk' with unit := 0 })[k]'hk4 = { T.labels[k] with unit := 0 } := by rw [List.getElem_set_self, hk2]
      have HZ0 := Lib.hid (show (World.setCell W.drew ⟨g, k * 5 + 1, none⟩ (.int .i64 0)).cell? ⟨g, k * 5, none⟩ = some (.int .i64 T.labels[k].id) from by have := ht4.row0 hk4; rwa [hk5] at this)
      have z3 : (World.setCell W.drew ⟨g, k * 5 + 1, none⟩ (.int .i64 0)).cell? ⟨g, k * 5 + 3, none⟩ = some (.string T.labels[k].note) := by have := ht4.row3 hk4; rwa [hk5] at this
      have y3 : W.cell? ⟨g, k * 5 + 3, none⟩ = some (.string T.labels[k].note) := by rw [← hk2]; exact ht3.row3 hk'
      have zf3 := ht3.own.frozen (k * 5 + 3)
      obtain ⟨ys5, ht5⟩ := ht4.note_ hk4 note hns
      have HT5 := Lib.hid (show ∃ ys, TabO _ base (.slice (some ⟨g, 0, none⟩) T.labels.length cap) ys ((T.labels.set j labZ).set k { T.labels[k] with unit := 0, note := note }) from ⟨ys5, by rw [hk5, List.set_set] at ht5; exact ht5⟩)
      have HTU := Lib.hid (((HTW).drew.trans (set_turned _ g (k * 5 + 1) (.int .i64 0))).trans (set_turned _ g (k * 5 + 3) (.string note)))
      have HB3 := Lib.hid (HBW)
      have hgn3 := HB3.out.lt
      have b3 := HB3.out.cell 0
      clear ht3 ht4 ht5 hk5
      clear a0 a1 a2 a3 a4 af0 af1 af2 af3 af4 hW HT3' HTW HBW u0 u1 u2 y0 y1 n0 r0 HT3 HTU3 HB2
      refine wp_region_R [8] (fun w' : World => w'.cell? ⟨gn, 0, none⟩ = some (.string note) ∧ w'.cell? ⟨g, k * 5, none⟩ = some (.int .i64 T.labels[k].id)) (by kernel_rfl) ?_
      have hS : (fun w' : World => w'.cell? ⟨gn, 0, none⟩ = some (.string note) ∧ w'.cell? ⟨g, k * 5, none⟩ = some (.int .i64 T.labels[k].id)) (World.drew _) := ⟨HB3.out.drew.cell 0, z0⟩
      refine wpAnyR_takeQ (i := 0) (v := ?_) (some 32) rfl rfl (by kernel_rfl) (by kernel_rfl) (by kernel_rfl) (by kernel_rfl) (fun _ _ _ h => h) (Or.inl ⟨by rfl, ?_⟩) ?_
      rotate_left
      focus (intro wS hSw; (try dsimp only at hSw); go_simp; (try with_reducible rfl); (try (first | (rw [if_pos (by omega)]; (try go_simp); (try with_reducible rfl)) | (rw [if_neg (by omega)]; (try go_simp); (try with_reducible rfl)))))
      try simp only [Act.put, List.setIfInBounds_toArray, List.set_cons_zero, List.set_cons_succ]
      refine wpAnyR_takeQ (i := 1) (v := ?_) (some 33) rfl rfl (by kernel_rfl) (by kernel_rfl) (by kernel_rfl) (by kernel_rfl) (fun _ _ _ h => h) (Or.inl ⟨by rfl, ?_⟩) ?_
      rotate_left
      focus (intro wS hSw; (try dsimp only at hSw); go_simp; (try with_reducible rfl); (try (first | (rw [if_pos (by omega)]; (try go_simp); (try with_reducible rfl)) | (rw [if_neg (by omega)]; (try go_simp); (try with_reducible rfl)))))
      try simp only [Act.put, List.setIfInBounds_toArray, List.set_cons_zero, List.set_cons_succ]
      refine wpAnyR_take (i := 2) (v := ?_) [6, 7, 8] (some 34) rfl rfl (by kernel_rfl) (by kernel_rfl) (by kernel_rfl) (by kernel_rfl) (by kernel_rfl) (by kernel_rfl) (by kernel_rfl) (fun _ _ _ h => h) (Or.inl ⟨by rfl, ?_⟩) hS ?_
      rotate_left
      focus (intro wS hSw; (try dsimp only at hSw); go_simp; (try with_reducible rfl); (try (first | (rw [if_pos (by omega)]; (try go_simp); (try with_reducible rfl)) | (rw [if_neg (by omega)]; (try go_simp); (try with_reducible rfl)))))
      try simp only [Act.put, List.setIfInBounds_toArray, List.set_cons_zero, List.set_cons_succ]
      refine wpAnyR_take (i := 3) (v := ?_) [4, 5, 6, 7, 8] (some 35) rfl rfl (by kernel_rfl) (by kernel_rfl) (by kernel_rfl) (by kernel_rfl) (by kernel_rfl) (by kernel_rfl) (by kernel_rfl) (fun _ _ _ h => h) (Or.inl ⟨by rfl, ?_⟩) hS ?_
      rotate_left
      focus (intro wS hSw; (try dsimp only at hSw); go_simp; (try with_reducible rfl); (try (first | (rw [if_pos (by omega)]; (try go_simp); (try with_reducible rfl)) | (rw [if_neg (by omega)]; (try go_simp); (try with_reducible rfl)))))
      try simp only [Act.put, List.setIfInBounds_toArray, List.set_cons_zero, List.set_cons_succ]
      refine wpAnyR_takeQ (i := 4) (v := ?_) (some 36) rfl rfl (by kernel_rfl) (by kernel_rfl) (by kernel_rfl) (by kernel_rfl) (fun _ _ _ h => h) (Or.inl ⟨by rfl, ?_⟩) ?_
      rotate_left
      focus (intro wS hSw; (try dsimp only at hSw); go_simp; (try with_reducible rfl); (try (first | (rw [if_pos (by omega)]; (try go_simp); (try with_reducible rfl)) | (rw [if_neg (by omega)]; (try go_simp); (try with_reducible rfl)))))
      try simp only [Act.put, List.setIfInBounds_toArray, List.set_cons_zero, List.set_cons_succ]
      refine wpAnyR_n1 (i := 5) rfl (by kernel_rfl) ?_
      intro K' hK
      rw [if_pos (by rfl)]
      simp only [List.getElem_toArray, List.getElem_cons_succ, List.getElem_cons_zero]
      go_wp2_with fail
      refine hK.out _ _ (.inr (fun h => ⟨(HB3.out.drew.far (p := ⟨g, k * 5 + 1, none⟩) hgng (.int .i64 0)).cell 0, HZ0.out⟩)) ?_
      clear hK hS
      have hS : (fun w' : World => w'.cell? ⟨gn, 0, none⟩ = some (.string note) ∧ w'.cell? ⟨g, k * 5, none⟩ = some (.int .i64 T.labels[k].id)) (W.setCell ⟨g, k * 5 + 1, none⟩ (.int .i64 0)).drew := ⟨(HB3.out.drew.far (p := ⟨g, k * 5 + 1, none⟩) hgng (.int .i64 0)).cell 0, HZ0.out⟩
      refine wpAnyR_take (i := 6) (v := ?_) [7, 8] (some 37) rfl rfl (by kernel_rfl) (by kernel_rfl) (by kernel_rfl) (by kernel_rfl) (by kernel_rfl) (by kernel_rfl) (by kernel_rfl) (fun _ _ _ h => h) (Or.inl ⟨by rfl, ?_⟩) hS ?_
      rotate_left
      focus (intro wS hSw; (try dsimp only at hSw); go_simp; (try with_reducible rfl); (try (first | (rw [if_pos (by omega)]; (try go_simp); (try with_reducible rfl)) | (rw [if_neg (by omega)]; (try go_simp); (try with_reducible rfl)))))
      try simp only [Act.put, List.setIfInBounds_toArray, List.set_cons_zero, List.set_cons_succ]
      refine wpAnyR_takeQ (i := 7) (v := ?_) (some 38) rfl rfl (by kernel_rfl) (by kernel_rfl) (by kernel_rfl) (by kernel_rfl) (fun _ _ _ h => h) (Or.inl ⟨by rfl, ?_⟩) ?_
      rotate_left
      focus (intro wS hSw; (try dsimp only at hSw); go_simp; (try with_reducible rfl); (try (first | (rw [if_pos (by omega)]; (try go_simp); (try with_reducible rfl)) | (rw [if_neg (by omega)]; (try go_simp); (try with_reducible rfl)))))
      try simp only [Act.put, List.setIfInBounds_toArray, List.set_cons_zero, List.set_cons_succ]
      refine wpAnyR_n1 (i := 8) rfl (by kernel_rfl) ?_
      intro K' hK
      rw [if_pos (by rfl)]
      simp only [List.getElem_toArray, List.getElem_cons_succ, List.getElem_cons_zero]
      go_wp2_with fail
      refine hK.out _ _ (.inl rfl) ?_
      clear hK
      refine wpAnyR_done (by kernel_rfl) ?_ _
      go_wp2_with fail
      go_ret
      rw [HE.out]
      exact ⟨rfl, HT5.out, HTU.out⟩
    · have hij : ix = -1 := hix.symm.trans hj1
      subst hij
      have HE := Lib.hid (HC.out.trans (by rw [if_neg hu', if_neg hn, if_neg (by rw [hix]; omega)]))
      have HLK := Lib.hid (show (T.labels)[k]'(by simpa using hk) = T.labels[k] from rfl)
      clear hix hTA hj1 hxs hu'
      go_enter Tryz.func91, Tryz.ntmps91
      go_wp2_with fail
      refine wp_region_R [] (fun w' : World => w'.cell? ⟨xo, 0, none⟩ = some (.string T.name) ∧ w'.cell? ⟨xo, 1, none⟩ = some (.int .i64 T.tracks) ∧ w'.cell? ⟨xo, 2, none⟩ = some (.slice (some ⟨g, 0, none⟩) T.labels.length cap) ∧ w'.cell? ⟨gr, 0, none⟩ = some (.int .i64 id)) (by kernel_rfl) ?_
      refine wpAnyR_takeQ (i := 0) (v := ?_) (some 16) rfl rfl (by kernel_rfl) (by kernel_rfl) (by kernel_rfl) (by kernel_rfl) (fun _ _ _ h => h) (Or.inl ⟨by rfl, ?_⟩) ?_
      rotate_left
      focus (intro wS hSw; (try dsimp only at hSw); go_simp; (try with_reducible rfl); (try (first | (rw [if_pos (by omega)]; (try go_simp); (try with_reducible rfl)) | (rw [if_neg (by omega)]; (try go_simp); (try with_reducible rfl)))))
      try simp only [Act.put, List.setIfInBounds_toArray, List.set_cons_zero, List.set_cons_succ]
      refine wpAnyR_take (i := 1) (v := ?_) [2, 6, 7] (some 17) rfl rfl (by kernel_rfl) (by kernel_rfl) (by kernel_rfl) (by kernel_rfl) (by kernel_rfl) (by kernel_rfl) (by kernel_rfl) (fun _ _ _ h => h) (Or.inl ⟨by rfl, ?_⟩) hS ?_
      rotate_left
      focus (intro wS hSw; (try dsimp only at hSw); go_simp; (try with_reducible rfl); (try (first | (rw [if_pos (by omega)]; (try go_simp); (try with_reducible rfl)) | (rw [if_neg (by omega)]; (try go_simp); (try with_reducible rfl)))))
      try simp only [Act.put, List.setIfInBounds_toArray, List.set_cons_zero, List.set_cons_succ]
      refine wpAnyR_take (i := 2) (v := ?_) [6, 7] (some 18) rfl rfl (by kernel_rfl) (by kernel_rfl) (by kernel_rfl) (by kernel_rfl) (by kernel_rfl) (by kernel_rfl) (by kernel_rfl) (fun _ _ _ h => h) (Or.inl ⟨by rfl, ?_⟩) hS ?_
      rotate_left
      focus (intro wS hSw; (try dsimp only at hSw); go_simp; (try with_reducible rfl); (try (first | (rw [if_pos (by omega)]; (try go_simp); (try with_reducible rfl)) | (rw [if_neg (by omega)]; (try go_simp); (try with_reducible rfl)))))
      try simp only [Act.put, List.setIfInBounds_toArray, List.set_cons_zero, List.set_cons_succ]
      refine wpAnyR_takeQ (i := 3) (v := ?_) (some 19) rfl rfl (by kernel_rfl) (by kernel_rfl) (by kernel_rfl) (by kernel_rfl) (fun _ _ _ h => h) (Or.inl ⟨by rfl, ?_⟩) ?_
      rotate_left
      focus (intro wS hSw; (try dsimp only at hSw); go_simp; (try with_reducible rfl); (try (first | (rw [if_pos (by omega)]; (try go_simp); (try with_reducible rfl)) | (rw [if_neg (by omega)]; (try go_simp); (try with_reducible rfl)))))
      try simp only [Act.put, List.setIfInBounds_toArray, List.set_cons_zero, List.set_cons_succ]
      refine wpAnyR_take (i := 4) (v := ?_) [5, 6, 7] (some 20) rfl rfl (by kernel_rfl) (by kernel_rfl) (by kernel_rfl) (by kernel_rfl) (by kernel_rfl) (by kernel_rfl) (by kernel_rfl) (fun _ _ _ h => h) (Or.inl ⟨by rfl, ?_⟩) hS ?_
      rotate_left
      focus (intro wS hSw; (try dsimp only at hSw); go_simp; (try with_reducible rfl); (try (first | (rw [if_pos (by omega)]; (try go_simp); (try with_reducible rfl)) | (rw [if_neg (by omega)]; (try go_simp); (try with_reducible rfl)))))
      try simp only [Act.put, List.setIfInBounds_toArray, List.set_cons_zero, List.set_cons_succ]
      refine wpAnyR_takeQ (i := 5) (v := ?_) (some 21) rfl rfl (by kernel_rfl) (by kernel_rfl) (by kernel_rfl) (by kernel_rfl) (fun _ _ _ h => h) (Or.inl ⟨by rfl, ?_⟩) ?_
      rotate_left
      focus (intro wS hSw; (try dsimp only at hSw); go_simp; (try with_reducible rfl); (try (first | (rw [if_pos (by omega)]; (try go_simp); (try with_reducible rfl)) | (rw [if_neg (by omega)]; (try go_simp); (try with_reducible rfl)))))
      try simp only [Act.put, List.setIfInBounds_toArray, List.set_cons_zero, List.set_cons_succ]
      refine wpAnyR_n1 (i := 6) rfl (by kernel_rfl) ?_
      intro K' hK
      rw [if_pos (by rfl)]
      simp only [List.getElem_toArray, List.getElem_cons_succ, List.getElem_cons_zero]
      go_wp2_with fail
      refine (HIX.out _ (Grew.refl w1).drew).mono ?_
      rintro e W ⟨rfl, g2⟩
      have g2' : Grew w1 W := (Grew.refl w1).drew.trans g2
      go_wp2_with fail
      refine hK.out _ _ (.inr (fun h => by
        simp only [g2'.cellEq _ _ hxo, g2'.cellEq _ _ hgr]
        exact hS)) ?_
      clear hK hS
      refine wpAnyR_takeQ (i := 7) (v := ?_) (some 7) rfl rfl (by kernel_rfl) (by kernel_rfl) (by kernel_rfl) (by kernel_rfl) (fun _ _ _ h => h) (Or.inl ⟨by rfl, ?_⟩) ?_
      rotate_left
      focus (intro wS hSw; (try dsimp only at hSw); go_simp; (try with_reducible rfl); (try (first | (rw [if_pos (by omega)]; (try go_simp); (try with_reducible rfl)) | (rw [if_neg (by omega)]; (try go_simp); (try with_reducible rfl)))))
      try simp only [Act.put, List.setIfInBounds_toArray, List.set_cons_zero, List.set_cons_succ]
      refine wpAnyR_done (by kernel_rfl) ?_ _
      have hk' : k < (T.labels).length := by simpa using hk
      have hk2 : (T.labels)[k]'hk' = T.labels[k] := by first | exact HLK.out | rfl
      have ht3 := HTAB.out.hold g2'
      have z0 : W.cell? ⟨g, k * 5, none⟩ = some (.int .i64 T.labels[k].id) := by rw [← hk2]; exact ht3.row0 hk'
      have z1 : W.cell? ⟨g, k * 5 + 1, none⟩ = some (.int .i64 T.labels[k].unit) := by rw [← hk2]; exact ht3.row1 hk'
      have zf1 := ht3.own.frozen (k * 5 + 1)
      have hg3 := ht3.own.block_lt.2
      obtain ⟨ys4, ht4⟩ := ht3.drew.unit_ hk' 0 (by omega)
      have hk4 : k < ((T.labels).set k { (T.labels)[k]'hk' with unit := 0 }).length := by simpa using hk
      have hk5 : ((T.labels).set k { (T.labels)[k]'hk' with unit := 0 })[k]'hk4 = { T.labels[k] with unit := 0 } := by rw [List.getElem_set_self, hk2]
      have HZ0 := Lib.hid (show (World.setCell W.drew ⟨g, k * 5 + 1, none⟩ (.int .i64 0)).cell? ⟨g, k * 5, none⟩ = some (.int .i64 T.labels[k].id) from by have := ht4.row0 hk4; rwa [hk5] at this)
      have z3 : (World.setCell W.drew ⟨g, k * 5 + 1, none⟩ (.int .i64 0)).cell? ⟨g, k * 5 + 3, none⟩ = some (.string T.labels[k].note) := by have := ht4.row3 hk4; rwa [hk5] at this
      have y3 : W.cell? ⟨g, k * 5 + 3, none⟩ = some (.string T.labels[k].note) := by rw [← hk2]; exact ht3.row3 hk'
      have zf3 := ht3.own.frozen (k * 5 + 3)
      obtain ⟨ys5, ht5⟩ := ht4.note_ hk4 note hns
      have HT5 := Lib.hid (show ∃ ys, TabO _ base (.slice (some ⟨g, 0, none⟩) T.labels.length cap) ys ((T.labels).set k { T.labels[k] with unit := 0, note := note }) from ⟨ys5, by rw [hk5, List.set_set] at ht5; exact ht5⟩)
      have HTU := Lib.hid (((g2'.turned (fun x => x = g)).drew.trans (set_turned _ g (k * 5 + 1) (.int .i64 0))).trans (set_turned _ g (k * 5 + 3) (.string note)))
      have HB3 := Lib.hid (HBN.out.grew g2')
      have hgn3 := HB3.out.lt
      have b3 := HB3.out.cell 0
      clear ht3 ht4 ht5 hk5
      clear y0 y1 n0 r0 g2 g2'
      go_wp2_with fail
      refine wp_region_R [8] (fun w' : World => w'.cell? ⟨gn, 0, none⟩ = some (.string note) ∧ w'.cell? ⟨g, k * 5, none⟩ = some (.int .i64 T.labels[k].id)) (by kernel_rfl) ?_
      have hS : (fun w' : World => w'.cell? ⟨gn, 0, none⟩ = some (.string note) ∧ w'.cell? ⟨g, k * 5, none⟩ = some (.int .i64 T.labels[k].id)) (World.drew _) := ⟨HB3.out.drew.cell 0, z0⟩
      refine wpAnyR_takeQ (i := 0) (v := ?_) (some 32) rfl rfl (by kernel_rfl) (by kernel_rfl) (by kernel_rfl) (by kernel_rfl) (fun _ _ _ h => h) (Or.inl ⟨by rfl, ?_⟩) ?_
      rotate_left
      focus (intro wS hSw; (try dsimp only at hSw); go_simp; (try with_reducible rfl); (try (first | (rw [if_pos (by omega)]; (try go_simp); (try with_reducible rfl)) | (rw [if_neg (by omega)]; (try go_simp); (try with_reducible rfl)))))
      try simp only [Act.put, List.setIfInBounds_toArray, List.set_cons_zero, List.set_cons_succ]
      refine wpAnyR_takeQ (i := 1) (v := ?_) (some 33) rfl rfl (by kernel_rfl) (by kernel_rfl) (by kernel_rfl) (by kernel_rfl) (fun _ _ _ h => h) (Or.inl ⟨by rfl, ?_⟩) ?_
      rotate_left
      focus (intro wS hSw; (try dsimp only at hSw); go_simp; (try with_reducible rfl); (try (first | (rw [if_pos (by omega)]; (try go_simp); (try with_reducible rfl)) | (rw [if_neg (by omega)]; (try go_simp); (try with_reducible rfl)))))
      try simp only [Act.put, List.setIfInBounds_toArray, List.set_cons_zero, List.set_cons_succ]
      refine wpAnyR_take (i := 2) (v := ?_) [6, 7, 8] (some 34) rfl rfl (by kernel_rfl) (by kernel_rfl) (by kernel_rfl) (by kernel_rfl) (by kernel_rfl) (by kernel_rfl) (by kernel_rfl) (fun _ _ _ h => h) (Or.inl ⟨by rfl, ?_⟩) hS ?_
      rotate_left
      focus (intro wS hSw; (try dsimp only at hSw); go_simp; (try with_reducible rfl); (try (first | (rw [if_pos (by omega)]; (try go_simp); (try with_reducible rfl)) | (rw [if_neg (by omega)]; (try go_simp); (try with_reducible rfl)))))
      try simp only [Act.put, List.setIfInBounds_toArray, List.set_cons_zero, List.set_cons_succ]
      refine wpAnyR_take (i := 3) (v := ?_) [4, 5, 6, 7, 8] (some 35) rfl rfl (by kernel_rfl) (by kernel_rfl) (by kernel_rfl) (by kernel_rfl) (by kernel_rfl) (by kernel_rfl) (by kernel_rfl) (fun _ _ _ h => h) (Or.inl ⟨by rfl, ?_⟩) hS ?_
      rotate_left
      focus (intro wS hSw; (try dsimp only at hSw); go_simp; (try with_reducible rfl); (try (first | (rw [if_pos (by omega)]; (try go_simp); (try with_reducible rfl)) | (rw [if_neg (by omega)]; (try go_simp); (try with_reducible rfl)))))
      try simp only [Act.put, List.setIfInBounds_toArray, List.set_cons_zero, List.set_cons_succ]
      refine wpAnyR_takeQ (i := 4) (v := ?_) (some 36) rfl rfl (by kernel_rfl) (by kernel_rfl) (by kernel_rfl) (by kernel_rfl) (fun _ _ _ h => h) (Or.inl ⟨by rfl, ?_⟩) ?_
      rotate_left
      focus (intro wS hSw; (try dsimp only at hSw); go_simp; (try with_reducible rfl); (try (first | (rw [if_pos (by omega)]; (try go_simp); (try with_reducible rfl)) | (rw [if_neg (by omega)]; (try go_simp); (try with_reducible rfl)))))
      try simp only [Act.put, List.setIfInBounds_toArray, List.set_cons_zero, List.set_cons_succ]
      refine wpAnyR_n1 (i := 5) rfl (by kernel_rfl) ?_
      intro K' hK
      rw [if_pos (by rfl)]
      simp only [List.getElem_toArray, List.getElem_cons_succ, List.getElem_cons_zero]
      go_wp2_with fail
      refine hK.out _ _ (.inr (fun h => ⟨(HB3.out.drew.far (p := ⟨g, k * 5 + 1, none⟩) hgng (.int .i64 0)).cell 0, HZ0.out⟩)) ?_
      clear hK hS
      have hS : (fun w' : World => w'.cell? ⟨gn, 0, none⟩ = some (.string note) ∧ w'.cell? ⟨g, k * 5, none⟩ = some (.int .i64 T.labels[k].id)) (W.setCell ⟨g, k * 5 + 1, none⟩ (.int .i64 0)).drew := ⟨(HB3.out.drew.far (p := ⟨g, k * 5 + 1, none⟩) hgng (.int .i64 0)).cell 0, HZ0.out⟩
      refine wpAnyR_take (i := 6) (v := ?_) [7, 8] (some 37) rfl rfl (by kernel_rfl) (by kernel_rfl) (by kernel_rfl) (by kernel_rfl) (by kernel_rfl) (by kernel_rfl) (by kernel_rfl) (fun _ _ _ h => h) (Or.inl ⟨by rfl, ?_⟩) hS ?_
      rotate_left
      focus (intro wS hSw; (try dsimp only at hSw); go_simp; (try with_reducible rfl); (try (first | (rw [if_pos (by omega)]; (try go_simp); (try with_reducible rfl)) | (rw [if_neg (by omega)]; (try go_simp); (try with_reducible rfl)))))
      try simp only [Act.put, List.setIfInBounds_toArray, List.set_cons_zero, List.set_cons_succ]
      refine wpAnyR_takeQ (i := 7) (v := ?_) (some 38) rfl rfl (by kernel_rfl) (by kernel_rfl) (by kernel_rfl) (by kernel_rfl) (fun _ _ _ h => h) (Or.inl ⟨by rfl, ?_⟩) ?_
      rotate_left
      focus (intro wS hSw; (try dsimp only at hSw); go_simp; (try with_reducible rfl); (try (first | (rw [if_pos (by omega)]; (try go_simp); (try with_reducible rfl)) | (rw [if_neg (by omega)]; (try go_simp); (try with_reducible rfl)))))
      try simp only [Act.put, List.setIfInBounds_toArray, List.set_cons_zero, List.set_cons_succ]
      refine wpAnyR_n1 (i := 8) rfl (by kernel_rfl) ?_
      intro K' hK
      rw [if_pos (by rfl)]
      simp only [List.getElem_toArray, List.getElem_cons_succ, List.getElem_cons_zero]
      go_wp2_with fail
      refine hK.out _ _ (.inl rfl) ?_
      clear hK
      refine wpAnyR_done (by kernel_rfl) ?_ _
      go_wp2_with fail
      go_ret
      rw [HE.out]
      exact ⟨rfl, HT5.out, HTU.out⟩
end
end Go.Proofs.YtnlaogneceanoaaGreat
namespace Go.Proofs.YtnlaogneceanoaaGreat
set_option linter.unusedVariables false
set_option linter.unusedSimpArgs false
set_option linter.unusedSectionVars false
open Go.RowKit
theorem OwnL.len {w : World} {base e sz g n cap : Nat} {rows : List (List Value)} (h : OwnL w base e sz (.slice (some ⟨g, 0, none⟩) n cap) rows) : rows.length = n ∧ n ≤ cap ∧ cap ≤ 9223372036854775807 := by
  rcases h.2.2 with ⟨h0, _⟩ | ⟨g', cap', cur, hv, _, _, hn, hm, _⟩
  · cases h0
  · injection hv with _ h1 h2
    unfold maxLen at hm
    exact ⟨h1.symm, by rw [h1, h2]; exact hn, by rw [h2]; simpa using hm⟩
theorem OwnL.block {w : World} {base e sz g n cap : Nat} {rows : List (List Value)} (h : OwnL w base e sz (.slice (some ⟨g, 0, none⟩) n cap) rows) :
    ∃ cur, base ≤ g ∧ w.heap[g]? = some (.cells cur e (0, 0)) ∧ cur.size = cap * sz ∧ cur.toList.take (n * sz) = rows.flatten := by
  have hlen := h.len.1
  rcases h.2.2 with ⟨h0, _⟩ | ⟨g', cap', cur, hv, hb, hh, hn, hm, hs, ht⟩
  · cases h0
  · injection hv with h0 h1 h2
    injection h0 with h0
    injection h0 with h0 _ _
    subst h0
    rw [hlen] at ht
    exact ⟨cur, hb, hh, by rw [hs, h2], ht⟩
section
variable {P : Program}
end
end Go.Proofs.YtnlaogneceanoaaGreat
namespace Go.Proofs.YtnlaogneceanoaaGreat
set_option linter.unusedVariables false
set_option linter.unusedSimpArgs false
set_option linter.unusedSectionVars false
open Go.RowKit
attribute [local go_sem ↓] Go.wp_at_zero Go.wp_at_succ
theorem runs_ne_tab {w : World} {A : Option Addr} {l : List (Int × Int)} {g : Nat} {t : TypeId} {s : ByteArray} {i : Int} {a : Option Addr} {n c : Nat} (h : RunsAt w w.heap.size A l) (hl : 0 < l.length) (hb : Blk w g t #[.string s, .int .i64 i, .slice a n c]) : ∀ b off, A = some ⟨b, off, none⟩ → b ≠ g := by
  rintro b off e rfl
  obtain ⟨b', off', x, y, e', hb', hv, _, c0, c1⟩ := h.at_ (k := 0) hl
  rw [e] at e'
  injection e' with e'
  injection e' with e1 e2 _
  subst e1; subst e2
  rw [Nat.zero_mul, Nat.add_zero] at c0 c1
  rw [hb.cell] at c0 c1
  match off with
  | 0 => simp at c0
  | 1 => simp at c1
  | 2 => simp at c0
  | off + 3 => simp at c0
theorem TabO.apart {w : World} {base : Nat} {v : Value} {ys : List LabE} {ls : List Lab} (h : TabO w base v ys ls) {g : Nat} {t : TypeId} {s : ByteArray} {i : Int} {a : Option Addr} {n c : Nat} (hb : Blk w g t #[.string s, .int .i64 i, .slice a n c]) : ∀ y ∈ ys, 0 < y.l.ext.length → ∀ b off, y.A = some ⟨b, off, none⟩ → ¬ b = g :=
  fun y hy h0 b off e => runs_ne_tab (h.lab y hy).runs h0 hb b off e
theorem TabO.nlen {w : World} {base g n cap : Nat} {ys : List LabE} {ls : List Lab} (h : TabO w base (.slice (some ⟨g, 0, none⟩) n cap) ys ls) : ls.length = n := by
  have h1 := h.own.len.1
  rw [List.length_map, h.len] at h1
  exact h1
theorem chgT_cases (T : Tab) (id unit : Int) (F : Nat → Lab → List Lab × Int) : (validT T = false ∧ chgT T id unit F = (tabZ, 1)) ∨ (validT T = true ∧ idxT T id unit = -1 ∧ chgT T id unit F = (tabZ, 6)) ∨
    (validT T = true ∧ ∃ (k : Nat) (hk : k < T.labels.length), idxT T id unit = (k : Int) ∧ hitL id unit T.labels[k] = true ∧ (((F k T.labels[k]).2 = 0 ∧ chgT T id unit F = ({ T with labels := (F k T.labels[k]).1 }, 0)) ∨ ((F k T.labels[k]).2 ≠ 0 ∧ chgT T id unit F = (tabZ, (F k T.labels[k]).2)))) := by
  unfold chgT
  cases hv : validT T with
  | false => exact .inl ⟨rfl, if_neg (by simp)⟩
  | true =>
    right
    rw [if_pos rfl]
    rcases idxP_cases (hitL id unit) T.labels with ⟨k, hk, h1, h2, _⟩ | ⟨h1, _⟩
    · have h1' : idxT T id unit = (k : Int) := h1
      right
      rw [h1', if_pos (by omega), Int.toNat_natCast, List.getD_eq_getElem?_getD, List.getElem?_eq_getElem hk, Option.getD_some]
      refine ⟨rfl, k, hk, rfl, h2, ?_⟩
      by_cases h0 : (F k T.labels[k]).2 = 0
      · exact .inl ⟨h0, by rw [if_pos h0]⟩
      · exact .inr ⟨h0, by rw [if_neg h0]⟩
    · have h1' : idxT T id unit = -1 := h1
      left
      rw [h1', if_neg (by omega)]
      exact ⟨rfl, rfl, rfl⟩
/-- A table and an error, returned. -/
def TabR (w : World) (T : Tab) (er : Int) (e : Ending) (w' : World) : Prop :=
  ∃ A c xs, e = .returned (.tuple #[.agg #[.string T.name, .int .i64 T.tracks, .slice A T.labels.length c], .int .i64 er]) ∧ TabAt w' A c xs T ∧ Grew w w'
section
variable (A : Option Addr) (c : Nat) (xs : List LabE) (T : Tab) (id unit : Int) (w : World) (p1 p2 : Nat)
set_option maxRecDepth 100000 in
set_option maxHeartbeats 8000000 in
theorem change_con (h : TabAt w A c xs T) (hs : SmallT T) (F : Nat → Lab → List Lab × Int)
    (HC : ∀ (w1 : World) (base g cap xo : Nat) (ys : List LabE) (k : Nat) (hk : k < T.labels.length), hitL id unit T.labels[k] = true → OutAt w w1 base g cap xo ys T → Calls Tryz.prog 91 #[.pointer (some ⟨g, k * 5, none⟩), .pointer (some ⟨xo, 0, none⟩), .pointer (some ⟨p1, 0, none⟩), .pointer (some ⟨p2, 0, none⟩)] w1 (ChgR w1 base g cap T.labels.length (F k T.labels[k])))
    (T' : Tab) (er : Int) (hr : chgT T id unit F = (T', er)) :
    Calls Tryz.prog 90 #[.agg #[.string T.name, .int .i64 T.tracks, .slice A T.labels.length c], .agg #[.int .i64 id, .int .i64 unit], .func (.func 91) #[] #[.pointer (some ⟨p1, 0, none⟩), .pointer (some ⟨p2, 0, none⟩)]] w (TabR w T' er) := by
  have hg0 := (((Grew.refl w).alloc (.cells #[.string T.name, .int .i64 T.tracks, .slice A T.labels.length c] 24)).alloc (.cells #[.int .i64 id, .int .i64 unit] 26)).alloc (.cells #[.string ⟨#[]⟩, .int .i64 0, .slice none 0 0] 24)
  have hb0 := ((Blk.new w 24 #[.string T.name, .int .i64 T.tracks, .slice A T.labels.length c] rfl).alloc (.cells #[.int .i64 id, .int .i64 unit] 26)).alloc (.cells #[.string ⟨#[]⟩, .int .i64 0, .slice none 0 0] 24)
  have hrf0 := (Blk.new (w.alloc (.cells #[.string T.name, .int .i64 T.tracks, .slice A T.labels.length c] 24)) 26 #[.int .i64 id, .int .i64 unit] (n := w.heap.size + 1) (by simp)).alloc (.cells #[.string ⟨#[]⟩, .int .i64 0, .slice none 0 0] 24)
  have hz0 := Blk.new ((w.alloc (.cells #[.string T.name, .int .i64 T.tracks, .slice A T.labels.length c] 24)).alloc (.cells #[.int .i64 id, .int .i64 unit] 26)) 24 #[.string ⟨#[]⟩, .int .i64 0, .slice none 0 0] (n := w.heap.size + 1 + 1) (by simp)
  have HV := Lib.hid (valid_tab A c xs T _ (h.hold hg0) hs _ rfl)
  have HIX := Lib.hid (fun w2 (g2 : Grew w w2) k hk => cindex_any A c xs T id unit w2 (h.hold g2) hs _ rfl k hk)
  have HCL := Lib.hid (fun w2 (g2 : Grew w w2) => clone_tab A c xs T w2 (h.hold g2) hs _ rfl)
  have HNM := Lib.hid (show T.name.size ≤ 9223372036854775807 ∧ -9223372036854775808 ≤ T.tracks ∧ T.tracks ≤ 9223372036854775807 from ⟨h.name, h.tr0, h.tr1⟩)
  have HCC := Lib.hid HC
  have HG0 := Lib.hid hg0
  have HB0 := Lib.hid hb0
  have HRF := Lib.hid hrf0
  have HZ0 := Lib.hid hz0
  clear h hs HC hg0 hb0 hrf0 hz0
  rcases chgT_cases T id unit F with ⟨hv, hx⟩ | ⟨hv, hi, hx⟩ | ⟨hv, k, hk, hi, hhit, hx⟩
  · rw [hx] at hr
    injection hr with h1 h2
    subst h1; subst h2
    have HVF := Lib.hid hv
    clear hv hx
    go_enter Tryz.func90, Tryz.ntmps90
    go_wp2_with fail
    refine HV.out.mono ?_
    rintro e w1 ⟨rfl, g1⟩
    rw [HVF.out]
    have hz1 := HZ0.out.grew g1
    have z0 := hz1.cell 0
    have z1 := hz1.cell 1
    have z2 := hz1.cell 2
    have f0 := hz1.frozen 0
    have f1 := hz1.frozen 1
    have f2 := hz1.frozen 2
    have hzl := hz1.lt
    have hg1 := HG0.out.trans g1
    clear hz1 g1
    go_wp2_with fail
    refine bodyPost_ret (by first | (simp [*, results, Tryz.results90, go_sem]; rfl) | simp [*, results, Tryz.results90, go_sem]) rfl ?_
    exact ⟨none, 0, [], rfl, TabAt.zero _, by (repeat' first | (with_reducible exact Grew.refl _) | (with_reducible assumption) | (with_reducible refine Grew.alloc ?_ _) | (with_reducible refine Grew.drew ?_) | (with_reducible refine Grew.drewN ?_ _) | (with_reducible refine Grew.setRow ?_ (by first | (simp; done) | (simp; omega) | omega) _) | (with_reducible refine Grew.setCell ?_ (by first | (simp; done) | (simp; omega) | omega) _) | ((with_reducible apply Grew.trans); rotate_left; (with_reducible assumption)) | ((with_reducible apply Grew.turn); rotate_left; (with_reducible assumption); (focus (intro i hi; first | omega | (simp at hi; omega)))) | fail)⟩
  · rw [hx] at hr
    injection hr with h1 h2
    subst h1; subst h2
    have HVF := Lib.hid hv
    have HI := Lib.hid hi
    clear hv hx hi
    go_enter Tryz.func90, Tryz.ntmps90
    go_wp2_with fail
    refine HV.out.mono ?_
    rintro e w1 ⟨rfl, g1⟩
    rw [HVF.out]
    have hb1 := HB0.out.grew g1
    have b0 := hb1.cell 0
    have b1 := hb1.cell 1
    have b2 := hb1.cell 2
    have hbl := hb1.lt
    have hr1 := HRF.out.grew g1
    have r0 := hr1.cell 0
    have r1 := hr1.cell 1
    have hrl := hr1.lt
    have HG1 := Lib.hid (HG0.out.trans g1)
    have HZ1 := Lib.hid (HZ0.out.grew g1)
    clear hb1 hr1 g1
    go_wp2_with fail
    refine (HIX.out w1 HG1.out _ HI.out).mono ?_
    rintro e w2 ⟨rfl, g2⟩
    have hz1 := HZ1.out.grew g2
    have z0 := hz1.cell 0
    have z1 := hz1.cell 1
    have z2 := hz1.cell 2
    have f0 := hz1.frozen 0
    have f1 := hz1.frozen 1
    have f2 := hz1.frozen 2
    have hzl := hz1.lt
    have hg1 := HG1.out.trans g2
    clear hz1 g2 b0 b1 b2 r0 r1
    go_wp2_with fail
    refine bodyPost_ret (by first | (simp [*, results, Tryz.results90, go_sem]; rfl) | simp [*, results, Tryz.results90, go_sem]) rfl ?_
    exact ⟨none, 0, [], rfl, TabAt.zero _, by (repeat' first | (with_reducible exact Grew.refl _) | (with_reducible assumption) | (with_reducible refine Grew.alloc ?_ _) | (with_reducible refine Grew.drew ?_) | (with_reducible refine Grew.drewN ?_ _) | (with_reducible refine Grew.setRow ?_ (by first | (simp; done) | (simp; omega) | omega) _) | (with_reducible refine Grew.setCell ?_ (by first | (simp; done) | (simp; omega) | omega) _) | ((with_reducible apply Grew.trans); rotate_left; (with_reducible assumption)) | ((with_reducible apply Grew.turn); rotate_left; (with_reducible assumption); (focus (intro i hi; first | omega | (simp at hi; omega)))) | fail)⟩
  · have HVF := Lib.hid hv
    have HI := Lib.hid hi
    have HHIT := Lib.hid hhit
    obtain ⟨⟨r1, r2⟩, hF⟩ : ∃ r, F k T.labels[k] = r := ⟨_, rfl⟩
    rw [hF] at hx
    have HF := Lib.hid hF
    have hkn : (k : Int) < (T.labels.length : Int) := by omega
    clear hv hi hhit hF
    go_enter Tryz.func90, Tryz.ntmps90
    go_wp2_with fail
    refine HV.out.mono ?_
    rintro e w1 ⟨rfl, g1⟩
    rw [HVF.out]
    have hb1 := HB0.out.grew g1
    have b0 := hb1.cell 0
    have b1 := hb1.cell 1
    have b2 := hb1.cell 2
    have hbl := hb1.lt
    have hrr1 := HRF.out.grew g1
    have rr0 := hrr1.cell 0
    have rr1 := hrr1.cell 1
    have hrl := hrr1.lt
    have HG1 := Lib.hid (HG0.out.trans g1)
    have HZ1 := Lib.hid (HZ0.out.grew g1)
    have HB1 := Lib.hid hb1
    clear hb1 hrr1 g1
    go_wp2_with fail
    refine (HIX.out w1 HG1.out _ HI.out).mono ?_
    rintro e w2 ⟨rfl, g2⟩
    have hb2 := HB1.out.grew g2
    clear b0 b1 b2 rr0 rr1
    have b0 := hb2.cell 0
    have b1 := hb2.cell 1
    have b2 := hb2.cell 2
    have hbl2 := hb2.lt
    have HG2 := Lib.hid (HG1.out.trans g2)
    have HZ2 := Lib.hid (HZ1.out.grew g2)
    clear hb2 g2
    go_wp2_with fail
    refine (HCL.out w2 HG2.out).mono ?_
    rintro e w3 ⟨v, ys, rfl, hto, g3⟩
    obtain ⟨g, cap, rfl, hgb, hgs⟩ : ∃ g cap, v = .slice (some ⟨g, 0, none⟩) T.labels.length cap ∧ w2.heap.size ≤ g ∧ g < w3.heap.size := by
      rcases hto.own.form with ⟨_, h0⟩ | ⟨g, cap, hv, h1, h2, _⟩
      · have := congrArg List.length h0; rw [List.length_map, hto.len, List.length_nil] at this; omega
      · rw [List.length_map, hto.len] at hv; exact ⟨g, cap, hv, h1, h2⟩
    have hgx : Grew w3 (w3.alloc (.cells #[.string T.name, .int .i64 T.tracks, .slice (some ⟨g, 0, none⟩) T.labels.length cap] 24)) := (Grew.refl w3).alloc _
    have hg3 := HG2.out.trans g3
    have hz2 := HZ2.out.lt
    have hOut : OutAt w (w3.alloc (.cells #[.string T.name, .int .i64 T.tracks, .slice (some ⟨g, 0, none⟩) T.labels.length cap] 24)) w2.heap.size g cap w3.heap.size ys T :=
      ⟨hg3.trans hgx, by omega, hg3.size, by omega, hto.hold hgx, Blk.new w3 _ _ rfl⟩
    have HCA := Lib.hid (HCC.out _ _ _ _ _ _ k hk HHIT.out hOut)
    have hl1 : k < cap := by have := hto.own.len.2.1; omega
    have HZ3 := Lib.hid ((HZ2.out.grew g3).grew hgx)
    have HG3 := Lib.hid (hg3.trans hgx)
    have HOB := Lib.hid hOut.blk
    have hgne : ¬ w.heap.size + 1 + 1 = g := by omega
    have hxne : ¬ w3.heap.size = g := by omega
    have hzx : w.heap.size + 1 + 1 < w3.heap.size := Nat.lt_of_lt_of_le hz2 g3.size
    have hgw : w.heap.size ≤ g := by omega
    rw [HF.out] at HCA
    clear hto hgx hg3 hOut g3 b0 b1 b2
    go_wp2_with fail
    refine HCA.out.mono ?_
    rintro e w4 ⟨rfl, ⟨ys4, ht4⟩, tu4⟩
    have hz4 := HZ3.out.turned tu4 hgne
    have ho4 := HOB.out.turned tu4 hxne
    have z0 := hz4.cell 0
    have z1 := hz4.cell 1
    have z2 := hz4.cell 2
    have f0 := hz4.frozen 0
    have f1 := hz4.frozen 1
    have f2 := hz4.frozen 2
    have o0 := ho4.cell 0
    have o1 := ho4.cell 1
    have o2 := ho4.cell 2
    have hzl := hz4.lt
    have hol := ho4.lt
    have hg4 : Grew w w4 := HG3.out.turn tu4 (fun i e => by omega)
    have hap := ht4.apart hz4
    have HT4 := Lib.hid ht4
    have HAP := Lib.hid hap
    have HN4 := Lib.hid ht4.nlen
    clear hz4 ho4 tu4 ht4 hap HCA
    rcases hx with ⟨h0, hx⟩ | ⟨h0, hx⟩
    · try simp only at h0
      subst h0
      rw [hx] at hr
      injection hr with h1 h2
      subst h2
      have HT' := Lib.hid h1
      clear hx h1
      go_wp2_with fail
      refine bodyPost_ret (by first | (simp [*, results, Tryz.results90, go_sem]; rfl) | simp [*, results, Tryz.results90, go_sem]) rfl ?_
      refine ⟨some ⟨g, 0, none⟩, cap, ys4, by rw [← HT'.out]; simp only [HN4.out], ?_, by (repeat' first | (with_reducible exact Grew.refl _) | (with_reducible assumption) | (with_reducible refine Grew.alloc ?_ _) | (with_reducible refine Grew.drew ?_) | (with_reducible refine Grew.drewN ?_ _) | (with_reducible refine Grew.setRow ?_ (by first | (simp; done) | (simp; omega) | omega) _) | (with_reducible refine Grew.setCell ?_ (by first | (simp; done) | (simp; omega) | omega) _) | ((with_reducible apply Grew.trans); rotate_left; (with_reducible assumption)) | ((with_reducible apply Grew.turn); rotate_left; (with_reducible assumption); (focus (intro i hi; first | omega | (simp at hi; omega)))) | fail)⟩
      rw [← HT'.out]
      exact (HT4.out.turned (S := fun k => k = w.heap.size + 1 + 1) (by (repeat' first | (with_reducible exact Turned.refl _ _) | (with_reducible assumption) | (with_reducible refine Turned.alloc ?_ _) | (with_reducible refine Turned.drew ?_) | (with_reducible refine Turned.drewN ?_ _) | (with_reducible refine Turned.setRow ?_ (by first | (simp; done) | (simp; omega) | omega) _) | (with_reducible refine Turned.setCell ?_ (by first | (simp; done) | (simp; omega) | omega) _) | ((with_reducible apply Turned.andGrew); rotate_left; (with_reducible assumption)) | ((with_reducible apply Turned.trans); rotate_left; (with_reducible assumption)) | fail)) (fun g' e => by have e' : g = g' := Option.some.inj e; omega) (fun y hy h0 b off e => HAP.out y hy h0 b off e)).tabAt _ _ HNM.out.1 HNM.out.2.1 HNM.out.2.2
    · try simp only at h0 hx
      rw [hx] at hr
      injection hr with h1 h2
      subst h1; subst h2
      have hne : (r2 != 0) = true := by rw [bne_iff_ne]; exact h0
      clear hx h0
      go_wp2_with fail
      refine bodyPost_ret (by first | (simp [*, results, Tryz.results90, go_sem]; rfl) | simp [*, results, Tryz.results90, go_sem]) rfl ?_
      exact ⟨none, 0, [], rfl, TabAt.zero _, by (repeat' first | (with_reducible exact Grew.refl _) | (with_reducible assumption) | (with_reducible refine Grew.alloc ?_ _) | (with_reducible refine Grew.drew ?_) | (with_reducible refine Grew.drewN ?_ _) | (with_reducible refine Grew.setRow ?_ (by first | (simp; done) | (simp; omega) | omega) _) | (with_reducible refine Grew.setCell ?_ (by first | (simp; done) | (simp; omega) | omega) _) | ((with_reducible apply Grew.trans); rotate_left; (with_reducible assumption)) | ((with_reducible apply Grew.turn); rotate_left; (with_reducible assumption); (focus (intro i hi; first | omega | (simp at hi; omega)))) | fail)⟩
end
end Go.Proofs.YtnlaogneceanoaaGreat
namespace Go.Proofs.YtnlaogneceanoaaGreat
set_option linter.unusedVariables false
set_option linter.unusedSimpArgs false
set_option linter.unusedSectionVars false
open Go.RowKit
attribute [local go_sem ↓] Go.wp_at_zero Go.wp_at_succ
theorem TabAt.turned {S : Nat → Prop} {w w' : World} {A : Option Addr} {c : Nat} {xs : List LabE} {T : Tab} (h : TabAt w A c xs T) (ht : Turned S w w') (h1 : 0 < xs.length → ∀ b off, A = some ⟨b, off, none⟩ → ¬ S b) (h2 : ∀ x ∈ xs, 0 < x.l.ext.length → ∀ b off, x.A = some ⟨b, off, none⟩ → ¬ S b) : TabAt w' A c xs T :=
  ⟨fun x hx => (h.lab x hx).turned ht (h2 x hx), fun h0 => by
    obtain ⟨b, off, e, hb, hc⟩ := h.rows h0
    exact ⟨b, off, e, Nat.lt_of_lt_of_le hb ht.size, fun j cs hj i v hi => by rw [ht.cellEq _ _ hb (h1 (by simpa using h0) b off e)]; exact hc j cs hj i v hi⟩, h.len, h.cap, h.eq, h.tr0, h.tr1, h.name⟩
/-- A table is apart from a variable that holds one. -/
theorem TabAt.apart {w w' : World} {A : Option Addr} {c : Nat} {xs : List LabE} {T : Tab} (h : TabAt w A c xs T) {g : Nat} {t : TypeId} {s : ByteArray} {i : Int} {a : Option Addr} {n d : Nat} (hb : Blk w g t #[.string s, .int .i64 i, .slice a n d]) (ht : Turned (fun x => x = g) w w') : TabAt w' A c xs T := by
  refine h.turned ht (fun h0 b off e => ?_) (fun x hx h0 b off e => runs_ne_tab (h.lab x hx).runs h0 hb b off e)
  rintro rfl
  obtain ⟨b', off', e', hb', hc⟩ := h.rows (by simpa using h0)
  rw [e] at e'
  injection e' with e'
  injection e' with e1 e2 _
  subst e1; subst e2
  have hr : (xs.map labC)[0]? = some (labC xs[0]) := by rw [List.getElem?_map, List.getElem?_eq_getElem h0]; rfl
  have c0 := hc 0 _ hr 0 _ rfl
  have c1 := hc 0 _ hr 1 _ rfl
  rw [Nat.zero_mul, Nat.add_zero, hb.cell] at c0 c1
  match off with
  | 0 => simp at c0
  | 1 => simp at c1
  | 2 => simp at c0
  | off + 3 => simp at c0
section
variable (A : Option Addr) (c : Nat) (xs : List LabE) (T : Tab) (id unit : Int) (w : World)
set_option maxRecDepth 100000 in
set_option maxHeartbeats 4000000 in
theorem confirm_tab (h : TabAt w A c xs T) (hs : SmallT T) (note : ByteArray) (hns : note.size ≤ 9223372036854775807) (T' : Tab) (er : Int) (hr : chgT T id unit (chCon T id note) = (T', er)) :
    Calls Tryz.prog 35 #[.agg #[.string T.name, .int .i64 T.tracks, .slice A T.labels.length c], .agg #[.int .i64 id, .int .i64 unit], .string note] w (TabR w T' er) := by
  have hg0 := ((((Grew.refl w).alloc (.cells #[.string T.name, .int .i64 T.tracks, .slice A T.labels.length c] 24)).alloc (.cells #[.int .i64 id, .int .i64 unit] 26)).alloc (.cells #[.string note] 9)).alloc (.cells #[.string ⟨#[]⟩, .int .i64 0, .slice none 0 0] 24)
  have hb0 := (((Blk.new w 24 #[.string T.name, .int .i64 T.tracks, .slice A T.labels.length c] rfl).alloc (.cells #[.int .i64 id, .int .i64 unit] 26)).alloc (.cells #[.string note] 9)).alloc (.cells #[.string ⟨#[]⟩, .int .i64 0, .slice none 0 0] 24)
  have hr0 := ((Blk.new (w.alloc (.cells #[.string T.name, .int .i64 T.tracks, .slice A T.labels.length c] 24)) 26 #[.int .i64 id, .int .i64 unit] (n := w.heap.size + 1) (by simp)).alloc (.cells #[.string note] 9)).alloc (.cells #[.string ⟨#[]⟩, .int .i64 0, .slice none 0 0] 24)
  have hn0 := (Blk.new ((w.alloc (.cells #[.string T.name, .int .i64 T.tracks, .slice A T.labels.length c] 24)).alloc (.cells #[.int .i64 id, .int .i64 unit] 26)) 9 #[.string note] (n := w.heap.size + 2) (by simp)).alloc (.cells #[.string ⟨#[]⟩, .int .i64 0, .slice none 0 0] 24)
  have hz0 := Blk.new (((w.alloc (.cells #[.string T.name, .int .i64 T.tracks, .slice A T.labels.length c] 24)).alloc (.cells #[.int .i64 id, .int .i64 unit] 26)).alloc (.cells #[.string note] 9)) 24 #[.string ⟨#[]⟩, .int .i64 0, .slice none 0 0] (n := w.heap.size + 3) (by simp)
  have h0 := h.hold hg0
  have HC := Lib.hid (change_con A c xs T id unit _ (w.heap.size + 2) (w.heap.size + 1) h0 hs (chCon T id note) (fun w1 base g cap xo ys k hk _ ho => confirm1_any _ w1 base g cap xo ys T k hk ho hs h.name h.tr0 h.tr1 note hns id unit _ _ hn0 hr0) T' er hr)
  have HG0 := Lib.hid hg0
  have HZ0 := Lib.hid hz0
  clear h hs hg0 hb0 hr0 hn0 hz0 h0 
  go_enter Tryz.func35, Tryz.ntmps35
  go_wp2_with fail
  refine HC.out.mono ?_
  rintro e w1 ⟨A1, c1, xs1, rfl, ht1, g1⟩
  have hz1 := HZ0.out.grew g1
  have z0 := hz1.cell 0
  have z1 := hz1.cell 1
  have z2 := hz1.cell 2
  have f0 := hz1.frozen 0
  have f1 := hz1.frozen 1
  have f2 := hz1.frozen 2
  have hzl := hz1.lt
  have hg1 := HG0.out.trans g1
  have HT1 := Lib.hid (fun w2 (ht : Turned (fun x => x = w.heap.size + 3) w1 w2) => ht1.apart hz1 ht)
  clear hz1 g1 ht1
  go_wp2_with fail
  refine bodyPost_ret (by first | (simp [*, results, Tryz.results35, go_sem]; rfl) | simp [*, results, Tryz.results35, go_sem]) rfl ?_
  exact ⟨A1, c1, xs1, rfl, HT1.out _ (by (repeat' first | (with_reducible exact Turned.refl _ _) | (with_reducible assumption) | (with_reducible refine Turned.alloc ?_ _) | (with_reducible refine Turned.drew ?_) | (with_reducible refine Turned.drewN ?_ _) | (with_reducible refine Turned.setRow ?_ (by first | (simp; done) | (simp; omega) | omega) _) | (with_reducible refine Turned.setCell ?_ (by first | (simp; done) | (simp; omega) | omega) _) | ((with_reducible apply Turned.andGrew); rotate_left; (with_reducible assumption)) | ((with_reducible apply Turned.trans); rotate_left; (with_reducible assumption)) | fail)), by (repeat' first | (with_reducible exact Grew.refl _) | (with_reducible assumption) | (with_reducible refine Grew.alloc ?_ _) | (with_reducible refine Grew.drew ?_) | (with_reducible refine Grew.drewN ?_ _) | (with_reducible refine Grew.setRow ?_ (by first | (simp; done) | (simp; omega) | omega) _) | (with_reducible refine Grew.setCell ?_ (by first | (simp; done) | (simp; omega) | omega) _) | ((with_reducible apply Grew.trans); rotate_left; (with_reducible assumption)) | ((with_reducible apply Grew.turn); rotate_left; (with_reducible assumption); (focus (intro i hi; first | omega | (simp at hi; omega)))) | fail)⟩
end
end Go.Proofs.YtnlaogneceanoaaGreat
namespace Go.Proofs.YtnlaogneceanoaaGreat
set_option linter.unusedVariables false
set_option linter.unusedSimpArgs false
set_option linter.unusedSectionVars false
open Go.RowKit
attribute [local go_sem ↓] Go.wp_at_zero Go.wp_at_succ
def okNew (id unit : Int) (nm nt : ByteArray) (n : Int) : Prop := 1 ≤ id ∧ id ≤ 1099511627776 ∧ 1 ≤ unit ∧ unit ≤ 1099511627776 ∧ nm.size ≤ 31 ∧ nt.size ≤ 400 ∧ 1 ≤ n
instance (id unit : Int) (nm nt : ByteArray) (n : Int) : Decidable (okNew id unit nm nt n) := by unfold okNew; exact inferInstance
def createT (T : Tab) (id unit : Int) (nm nt : ByteArray) (n : Int) : Tab × Int :=
  if validT T = true ∧ okNew id unit nm nt n then
    if T.labels.any (tentL id) = true then (tabZ, 5)
    else if idxP emL T.labels < 0 then (tabZ, 8)
    else if (allocS (memS (freeT T)) n 16).2 = 0 then ({ T with labels := T.labels.set (idxP emL T.labels).toNat ⟨id, unit, nm, nt, ints (allocS (memS (freeT T)) n 16).1⟩ }, 0)
    else (tabZ, 14)
  else (tabZ, 1)
section
variable (A : Option Addr) (c : Nat) (xs : List LabE) (T : Tab) (id unit : Int) (w : World)
set_option maxRecDepth 100000 in
set_option maxHeartbeats 16000000 in
theorem create_tab (h : TabAt w A c xs T) (hs : SmallT T) (nm nt : ByteArray) (hns : nm.size ≤ 9223372036854775807) (hts : nt.size ≤ 9223372036854775807) (n : Int) (n0 : -9223372036854775808 ≤ n) (n1 : n ≤ 9223372036854775807) (T' : Tab) (er : Int) (hr : createT T id unit nm nt n = (T', er)) :
    Calls Tryz.prog 34 #[.agg #[.string T.name, .int .i64 T.tracks, .slice A T.labels.length c], .agg #[.int .i64 id, .int .i64 unit], .string nm, .string nt, .int .i64 n] w (TabR w T' er) := by
  have hg0 := ((((Grew.refl w).alloc (.cells #[.string T.name, .int .i64 T.tracks, .slice A T.labels.length c] 24)).alloc (.cells #[.int .i64 id, .int .i64 unit] 26))).alloc (.cells #[.string ⟨#[]⟩, .int .i64 0, .slice none 0 0] 24)
  have hb0 := ((Blk.new w 24 #[.string T.name, .int .i64 T.tracks, .slice A T.labels.length c] rfl).alloc (.cells #[.int .i64 id, .int .i64 unit] 26)).alloc (.cells #[.string ⟨#[]⟩, .int .i64 0, .slice none 0 0] 24)
  have hr0 := (Blk.new (w.alloc (.cells #[.string T.name, .int .i64 T.tracks, .slice A T.labels.length c] 24)) 26 #[.int .i64 id, .int .i64 unit] (n := w.heap.size + 1) (by simp)).alloc (.cells #[.string ⟨#[]⟩, .int .i64 0, .slice none 0 0] 24)
  have hz0 := Blk.new ((w.alloc (.cells #[.string T.name, .int .i64 T.tracks, .slice A T.labels.length c] 24)).alloc (.cells #[.int .i64 id, .int .i64 unit] 26)) 24 #[.string ⟨#[]⟩, .int .i64 0, .slice none 0 0] (n := w.heap.size + 1 + 1) (by simp)
  have HV := Lib.hid (valid_tab A c xs T _ (h.hold hg0) hs _ rfl)
  have HTB := Lib.hid h
  have HS := Lib.hid hs
  have HG0 := Lib.hid hg0
  have HB0 := Lib.hid hb0
  have HRF := Lib.hid hr0
  have HZ0 := Lib.hid hz0
  clear h hs hg0 hb0 hr0 hz0
  cases hv : validT T with
  | false =>
    have hx : createT T id unit nm nt n = (tabZ, 1) := by unfold createT; rw [if_neg (fun h => by rw [hv] at h; cases h.1)]
    rw [hx] at hr
    injection hr with e1 e2
    subst e1; subst e2
    have HVF := Lib.hid hv
    clear hv hx
    go_enter Tryz.func34, Tryz.ntmps34
    go_wp2_with fail
    refine HV.out.mono ?_
    rintro e w1 ⟨rfl, g1⟩
    rw [HVF.out]
    have hr1 := HRF.out.grew g1
    have r0 := hr1.cell 0
    have r1 := hr1.cell 1
    have hrl := hr1.lt
    have hz1 := HZ0.out.grew g1
    have hzl := hz1.lt
    have z0 := hz1.cell 0
    have z1 := hz1.cell 1
    have z2 := hz1.cell 2
    have f0 := hz1.frozen 0
    have f1 := hz1.frozen 1
    have f2 := hz1.frozen 2
    have hg1 := HG0.out.trans g1
    clear hz1 hr1 g1
    go_wp2_with fail
    refine bodyPost_ret (by first | (simp [*, results, Tryz.results34, go_sem]; rfl) | simp [*, results, Tryz.results34, go_sem]) rfl ?_
    exact ⟨none, 0, [], rfl, TabAt.zero _, by (repeat' first | (with_reducible exact Grew.refl _) | (with_reducible assumption) | (with_reducible refine Grew.alloc ?_ _) | (with_reducible refine Grew.drew ?_) | (with_reducible refine Grew.drewN ?_ _) | (with_reducible refine Grew.setRow ?_ (by first | (simp; done) | (simp; omega) | omega) _) | (with_reducible refine Grew.setCell ?_ (by first | (simp; done) | (simp; omega) | omega) _) | ((with_reducible apply Grew.trans); rotate_left; (with_reducible assumption)) | ((with_reducible apply Grew.turn); rotate_left; (with_reducible assumption); (focus (intro i hi; first | omega | (simp at hi; omega)))) | fail)⟩
  | true =>
  have HX1 := Lib.hid (show ¬ okNew id unit nm nt n → createT T id unit nm nt n = (tabZ, 1) from fun hn => by unfold createT; rw [if_neg (fun h => hn h.2)])
  have HX2 := Lib.hid (show okNew id unit nm nt n → createT T id unit nm nt n = (if T.labels.any (tentL id) = true then (tabZ, 5) else if idxP emL T.labels < 0 then (tabZ, 8) else if (allocS (memS (freeT T)) n 16).2 = 0 then ({ T with labels := T.labels.set (idxP emL T.labels).toNat ⟨id, unit, nm, nt, ints (allocS (memS (freeT T)) n 16).1⟩ }, 0) else (tabZ, 14)) from fun hn => by unfold createT; rw [if_pos ⟨hv, hn⟩])
  have HVF := Lib.hid hv
  clear hv
  by_cases a1 : 1 ≤ id
  rotate_left
  · have HE := Lib.hid (HX1.out (fun hc => a1 hc.1))
    rw [HE.out] at hr
    injection hr with e1 e2
    subst e1; subst e2
    go_enter Tryz.func34, Tryz.ntmps34
    go_wp2_with fail
    refine HV.out.mono ?_
    rintro e w1 ⟨rfl, g1⟩
    rw [HVF.out]
    have hr1 := HRF.out.grew g1
    have r0 := hr1.cell 0
    have r1 := hr1.cell 1
    have hrl := hr1.lt
    have hz1 := HZ0.out.grew g1
    have hzl := hz1.lt
    have z0 := hz1.cell 0
    have z1 := hz1.cell 1
    have z2 := hz1.cell 2
    have f0 := hz1.frozen 0
    have f1 := hz1.frozen 1
    have f2 := hz1.frozen 2
    have hg1 := HG0.out.trans g1
    clear hz1 hr1 g1
    go_wp2_with fail
    refine bodyPost_ret (by first | (simp [*, results, Tryz.results34, go_sem]; rfl) | simp [*, results, Tryz.results34, go_sem]) rfl ?_
    exact ⟨none, 0, [], rfl, TabAt.zero _, by (repeat' first | (with_reducible exact Grew.refl _) | (with_reducible assumption) | (with_reducible refine Grew.alloc ?_ _) | (with_reducible refine Grew.drew ?_) | (with_reducible refine Grew.drewN ?_ _) | (with_reducible refine Grew.setRow ?_ (by first | (simp; done) | (simp; omega) | omega) _) | (with_reducible refine Grew.setCell ?_ (by first | (simp; done) | (simp; omega) | omega) _) | ((with_reducible apply Grew.trans); rotate_left; (with_reducible assumption)) | ((with_reducible apply Grew.turn); rotate_left; (with_reducible assumption); (focus (intro i hi; first | omega | (simp at hi; omega)))) | fail)⟩
  by_cases a2 : id ≤ 1099511627776
  rotate_left
  · have HE := Lib.hid (HX1.out (fun hc => a2 hc.2.1))
    rw [HE.out] at hr
    injection hr with e1 e2
    subst e1; subst e2
    go_enter Tryz.func34, Tryz.ntmps34
    go_wp2_with fail
    refine HV.out.mono ?_
    rintro e w1 ⟨rfl, g1⟩
    rw [HVF.out]
    have hr1 := HRF.out.grew g1
    have r0 := hr1.cell 0
    have r1 := hr1.cell 1
    have hrl := hr1.lt
    have hz1 := HZ0.out.grew g1
    have hzl := hz1.lt
    have z0 := hz1.cell 0
    have z1 := hz1.cell 1
    have z2 := hz1.cell 2
    have f0 := hz1.frozen 0
    have f1 := hz1.frozen 1
    have f2 := hz1.frozen 2
    have hg1 := HG0.out.trans g1
    clear hz1 hr1 g1
    go_wp2_with fail
    refine bodyPost_ret (by first | (simp [*, results, Tryz.results34, go_sem]; rfl) | simp [*, results, Tryz.results34, go_sem]) rfl ?_
    exact ⟨none, 0, [], rfl, TabAt.zero _, by (repeat' first | (with_reducible exact Grew.refl _) | (with_reducible assumption) | (with_reducible refine Grew.alloc ?_ _) | (with_reducible refine Grew.drew ?_) | (with_reducible refine Grew.drewN ?_ _) | (with_reducible refine Grew.setRow ?_ (by first | (simp; done) | (simp; omega) | omega) _) | (with_reducible refine Grew.setCell ?_ (by first | (simp; done) | (simp; omega) | omega) _) | ((with_reducible apply Grew.trans); rotate_left; (with_reducible assumption)) | ((with_reducible apply Grew.turn); rotate_left; (with_reducible assumption); (focus (intro i hi; first | omega | (simp at hi; omega)))) | fail)⟩
  by_cases a3 : 1 ≤ unit
  rotate_left
  · have HE := Lib.hid (HX1.out (fun hc => a3 hc.2.2.1))
    rw [HE.out] at hr
    injection hr with e1 e2
    subst e1; subst e2
    go_enter Tryz.func34, Tryz.ntmps34
    go_wp2_with fail
    refine HV.out.mono ?_
    rintro e w1 ⟨rfl, g1⟩
    rw [HVF.out]
    have hr1 := HRF.out.grew g1
    have r0 := hr1.cell 0
    have r1 := hr1.cell 1
    have hrl := hr1.lt
    have hz1 := HZ0.out.grew g1
    have hzl := hz1.lt
    have z0 := hz1.cell 0
    have z1 := hz1.cell 1
    have z2 := hz1.cell 2
    have f0 := hz1.frozen 0
    have f1 := hz1.frozen 1
    have f2 := hz1.frozen 2
    have hg1 := HG0.out.trans g1
    clear hz1 hr1 g1
    go_wp2_with fail
    refine bodyPost_ret (by first | (simp [*, results, Tryz.results34, go_sem]; rfl) | simp [*, results, Tryz.results34, go_sem]) rfl ?_
    exact ⟨none, 0, [], rfl, TabAt.zero _, by (repeat' first | (with_reducible exact Grew.refl _) | (with_reducible assumption) | (with_reducible refine Grew.alloc ?_ _) | (with_reducible refine Grew.drew ?_) | (with_reducible refine Grew.drewN ?_ _) | (with_reducible refine Grew.setRow ?_ (by first | (simp; done) | (simp; omega) | omega) _) | (with_reducible refine Grew.setCell ?_ (by first | (simp; done) | (simp; omega) | omega) _) | ((with_reducible apply Grew.trans); rotate_left; (with_reducible assumption)) | ((with_reducible apply Grew.turn); rotate_left; (with_reducible assumption); (focus (intro i hi; first | omega | (simp at hi; omega)))) | fail)⟩
  by_cases a4 : unit ≤ 1099511627776
  rotate_left
  · have HE := Lib.hid (HX1.out (fun hc => a4 hc.2.2.2.1))
    rw [HE.out] at hr
    injection hr with e1 e2
    subst e1; subst e2
    go_enter Tryz.func34, Tryz.ntmps34
    go_wp2_with fail
    refine HV.out.mono ?_
    rintro e w1 ⟨rfl, g1⟩
    rw [HVF.out]
    have hr1 := HRF.out.grew g1
    have r0 := hr1.cell 0
    have r1 := hr1.cell 1
    have hrl := hr1.lt
    have hz1 := HZ0.out.grew g1
    have hzl := hz1.lt
    have z0 := hz1.cell 0
    have z1 := hz1.cell 1
    have z2 := hz1.cell 2
    have f0 := hz1.frozen 0
    have f1 := hz1.frozen 1
    have f2 := hz1.frozen 2
    have hg1 := HG0.out.trans g1
    clear hz1 hr1 g1
    go_wp2_with fail
    refine bodyPost_ret (by first | (simp [*, results, Tryz.results34, go_sem]; rfl) | simp [*, results, Tryz.results34, go_sem]) rfl ?_
    exact ⟨none, 0, [], rfl, TabAt.zero _, by (repeat' first | (with_reducible exact Grew.refl _) | (with_reducible assumption) | (with_reducible refine Grew.alloc ?_ _) | (with_reducible refine Grew.drew ?_) | (with_reducible refine Grew.drewN ?_ _) | (with_reducible refine Grew.setRow ?_ (by first | (simp; done) | (simp; omega) | omega) _) | (with_reducible refine Grew.setCell ?_ (by first | (simp; done) | (simp; omega) | omega) _) | ((with_reducible apply Grew.trans); rotate_left; (with_reducible assumption)) | ((with_reducible apply Grew.turn); rotate_left; (with_reducible assumption); (focus (intro i hi; first | omega | (simp at hi; omega)))) | fail)⟩
  by_cases a5 : nm.size ≤ 31
  rotate_left
  · have HE := Lib.hid (HX1.out (fun hc => a5 hc.2.2.2.2.1))
    have a5i : ¬ (nm.size : Int) ≤ 31 := by omega
    rw [HE.out] at hr
    injection hr with e1 e2
    subst e1; subst e2
    go_enter Tryz.func34, Tryz.ntmps34
    go_wp2_with fail
    refine HV.out.mono ?_
    rintro e w1 ⟨rfl, g1⟩
    rw [HVF.out]
    have hr1 := HRF.out.grew g1
    have r0 := hr1.cell 0
    have r1 := hr1.cell 1
    have hrl := hr1.lt
    have hz1 := HZ0.out.grew g1
    have hzl := hz1.lt
    have z0 := hz1.cell 0
    have z1 := hz1.cell 1
    have z2 := hz1.cell 2
    have f0 := hz1.frozen 0
    have f1 := hz1.frozen 1
    have f2 := hz1.frozen 2
    have hg1 := HG0.out.trans g1
    clear hz1 hr1 g1
    go_wp2_with fail
    refine bodyPost_ret (by first | (simp [*, results, Tryz.results34, go_sem]; rfl) | simp [*, results, Tryz.results34, go_sem]) rfl ?_
    exact ⟨none, 0, [], rfl, TabAt.zero _, by (repeat' first | (with_reducible exact Grew.refl _) | (with_reducible assumption) | (with_reducible refine Grew.alloc ?_ _) | (with_reducible refine Grew.drew ?_) | (with_reducible refine Grew.drewN ?_ _) | (with_reducible refine Grew.setRow ?_ (by first | (simp; done) | (simp; omega) | omega) _) | (with_reducible refine Grew.setCell ?_ (by first | (simp; done) | (simp; omega) | omega) _) | ((with_reducible apply Grew.trans); rotate_left; (with_reducible assumption)) | ((with_reducible apply Grew.turn); rotate_left; (with_reducible assumption); (focus (intro i hi; first | omega | (simp at hi; omega)))) | fail)⟩
  have a5i : (nm.size : Int) ≤ 31 := by omega
  by_cases a6 : nt.size ≤ 400
  rotate_left
  · have HE := Lib.hid (HX1.out (fun hc => a6 hc.2.2.2.2.2.1))
    have a6i : ¬ (nt.size : Int) ≤ 400 := by omega
    rw [HE.out] at hr
    injection hr with e1 e2
    subst e1; subst e2
    go_enter Tryz.func34, Tryz.ntmps34
    go_wp2_with fail
    refine HV.out.mono ?_
    rintro e w1 ⟨rfl, g1⟩
    rw [HVF.out]
    have hr1 := HRF.out.grew g1
    have r0 := hr1.cell 0
    have r1 := hr1.cell 1
    have hrl := hr1.lt
    have hz1 := HZ0.out.grew g1
    have hzl := hz1.lt
    have z0 := hz1.cell 0
    have z1 := hz1.cell 1
    have z2 := hz1.cell 2
    have f0 := hz1.frozen 0
    have f1 := hz1.frozen 1
    have f2 := hz1.frozen 2
    have hg1 := HG0.out.trans g1
    clear hz1 hr1 g1
    go_wp2_with fail
    refine bodyPost_ret (by first | (simp [*, results, Tryz.results34, go_sem]; rfl) | simp [*, results, Tryz.results34, go_sem]) rfl ?_
    exact ⟨none, 0, [], rfl, TabAt.zero _, by (repeat' first | (with_reducible exact Grew.refl _) | (with_reducible assumption) | (with_reducible refine Grew.alloc ?_ _) | (with_reducible refine Grew.drew ?_) | (with_reducible refine Grew.drewN ?_ _) | (with_reducible refine Grew.setRow ?_ (by first | (simp; done) | (simp; omega) | omega) _) | (with_reducible refine Grew.setCell ?_ (by first | (simp; done) | (simp; omega) | omega) _) | ((with_reducible apply Grew.trans); rotate_left; (with_reducible assumption)) | ((with_reducible apply Grew.turn); rotate_left; (with_reducible assumption); (focus (intro i hi; first | omega | (simp at hi; omega)))) | fail)⟩
  have a6i : (nt.size : Int) ≤ 400 := by omega
  by_cases a7 : 1 ≤ n
  rotate_left
  · have HE := Lib.hid (HX1.out (fun hc => a7 hc.2.2.2.2.2.2))
    rw [HE.out] at hr
    injection hr with e1 e2
    subst e1; subst e2
    go_enter Tryz.func34, Tryz.ntmps34
    go_wp2_with fail
    refine HV.out.mono ?_
    rintro e w1 ⟨rfl, g1⟩
    rw [HVF.out]
    have hr1 := HRF.out.grew g1
    have r0 := hr1.cell 0
    have r1 := hr1.cell 1
    have hrl := hr1.lt
    have hz1 := HZ0.out.grew g1
    have hzl := hz1.lt
    have z0 := hz1.cell 0
    have z1 := hz1.cell 1
    have z2 := hz1.cell 2
    have f0 := hz1.frozen 0
    have f1 := hz1.frozen 1
    have f2 := hz1.frozen 2
    have hg1 := HG0.out.trans g1
    clear hz1 hr1 g1
    go_wp2_with fail
    refine bodyPost_ret (by first | (simp [*, results, Tryz.results34, go_sem]; rfl) | simp [*, results, Tryz.results34, go_sem]) rfl ?_
    exact ⟨none, 0, [], rfl, TabAt.zero _, by (repeat' first | (with_reducible exact Grew.refl _) | (with_reducible assumption) | (with_reducible refine Grew.alloc ?_ _) | (with_reducible refine Grew.drew ?_) | (with_reducible refine Grew.drewN ?_ _) | (with_reducible refine Grew.setRow ?_ (by first | (simp; done) | (simp; omega) | omega) _) | (with_reducible refine Grew.setCell ?_ (by first | (simp; done) | (simp; omega) | omega) _) | ((with_reducible apply Grew.trans); rotate_left; (with_reducible assumption)) | ((with_reducible apply Grew.turn); rotate_left; (with_reducible assumption); (focus (intro i hi; first | omega | (simp at hi; omega)))) | fail)⟩
  have d1 : decide (id < 1) = false := decide_eq_false (by omega)
  have d2 : decide (1099511627776 < id) = false := decide_eq_false (by omega)
  have d3 : decide (unit < 1) = false := decide_eq_false (by omega)
  have d4 : decide (1099511627776 < unit) = false := decide_eq_false (by omega)
  have d5 : decide (31 < (nm.size : Int)) = false := decide_eq_false (by omega)
  have d6 : decide (400 < (nt.size : Int)) = false := decide_eq_false (by omega)
  have d7 : decide (n < 1) = false := decide_eq_false (by omega)
  rw [HX2.out ⟨a1, a2, a3, a4, a5, a6, a7⟩] at hr
  obtain ⟨te, hte⟩ : ∃ te, T.labels.any (tentL id) = te := ⟨_, rfl⟩
  rw [hte] at hr
  have HTE := Lib.hid hte
  clear hte
  cases te with
  | true =>
    rw [if_pos rfl] at hr
    injection hr with e1 e2
    subst e1; subst e2
    go_enter Tryz.func34, Tryz.ntmps34
    go_wp2_with fail
    refine HV.out.mono ?_
    rintro e w1 ⟨rfl, g1⟩
    rw [HVF.out]
    have hr1 := HRF.out.grew g1
    have r0 := hr1.cell 0
    have r1 := hr1.cell 1
    have hrl := hr1.lt
    have hz1 := HZ0.out.grew g1
    have hzl := hz1.lt
    have HG1 := Lib.hid (HG0.out.trans g1)
    have HB1 := Lib.hid (HB0.out.grew g1)
    have HR1 := Lib.hid hr1
    have HZ1 := Lib.hid hz1
    have b2 := HB1.out.cell 2
    have hbl := HB1.out.lt
    clear hz1 hr1 g1
    go_wp2_with fail
    refine (hasTent_any A c xs T (w.heap.size + 1) id unit w1 (HTB.out.hold HG1.out) HS.out HR1.out _ rfl).mono ?_
    rintro e w2 ⟨rfl, g2⟩
    rw [HTE.out]
    have hz1 := HZ1.out.grew g2
    have hzl2 := hz1.lt
    have z0 := hz1.cell 0
    have z1 := hz1.cell 1
    have z2 := hz1.cell 2
    have f0 := hz1.frozen 0
    have f1 := hz1.frozen 1
    have f2 := hz1.frozen 2
    have hg1 := HG1.out.trans g2
    clear hz1 g2
    go_wp2_with fail
    refine bodyPost_ret (by first | (simp [*, results, Tryz.results34, go_sem]; rfl) | simp [*, results, Tryz.results34, go_sem]) rfl ?_
    exact ⟨none, 0, [], rfl, TabAt.zero _, by (repeat' first | (with_reducible exact Grew.refl _) | (with_reducible assumption) | (with_reducible refine Grew.alloc ?_ _) | (with_reducible refine Grew.drew ?_) | (with_reducible refine Grew.drewN ?_ _) | (with_reducible refine Grew.setRow ?_ (by first | (simp; done) | (simp; omega) | omega) _) | (with_reducible refine Grew.setCell ?_ (by first | (simp; done) | (simp; omega) | omega) _) | ((with_reducible apply Grew.trans); rotate_left; (with_reducible assumption)) | ((with_reducible apply Grew.turn); rotate_left; (with_reducible assumption); (focus (intro i hi; first | omega | (simp at hi; omega)))) | fail)⟩
  | false =>
  rw [if_neg (by simp)] at hr
  rcases idxP_cases emL T.labels with ⟨k, hk, hi, -, -⟩ | ⟨hi, -⟩
  rotate_left
  · rw [hi, if_pos (by omega)] at hr
    injection hr with e1 e2
    subst e1; subst e2
    have HIE := Lib.hid hi
    clear hi
    go_enter Tryz.func34, Tryz.ntmps34
    go_wp2_with fail
    refine HV.out.mono ?_
    rintro e w1 ⟨rfl, g1⟩
    rw [HVF.out]
    have hr1 := HRF.out.grew g1
    have r0 := hr1.cell 0
    have r1 := hr1.cell 1
    have hrl := hr1.lt
    have hz1 := HZ0.out.grew g1
    have hzl := hz1.lt
    have HG1 := Lib.hid (HG0.out.trans g1)
    have HB1 := Lib.hid (HB0.out.grew g1)
    have HR1 := Lib.hid hr1
    have HZ1 := Lib.hid hz1
    have b2 := HB1.out.cell 2
    have hbl := HB1.out.lt
    clear hz1 hr1 g1
    go_wp2_with fail
    refine (hasTent_any A c xs T (w.heap.size + 1) id unit w1 (HTB.out.hold HG1.out) HS.out HR1.out _ rfl).mono ?_
    rintro e w2 ⟨rfl, g2⟩
    rw [HTE.out]
    have HG2 := Lib.hid (HG1.out.trans g2)
    have HB2 := Lib.hid (HB1.out.grew g2)
    have HR2 := Lib.hid (HR1.out.grew g2)
    have HZ2 := Lib.hid (HZ1.out.grew g2)
    clear b2 hbl r0 r1 hrl hzl g2
    have b2 := HB2.out.cell 2
    have hbl := HB2.out.lt
    go_wp2_with fail
    refine (find_empty A c xs T (w.heap.size + 1) id unit w2 (HTB.out.hold HG2.out) HS.out HR2.out _ rfl).mono ?_
    rintro e w3 ⟨rfl, g3⟩
    rw [HIE.out]
    have hz1 := HZ2.out.grew g3
    have hzl2 := hz1.lt
    have z0 := hz1.cell 0
    have z1 := hz1.cell 1
    have z2 := hz1.cell 2
    have f0 := hz1.frozen 0
    have f1 := hz1.frozen 1
    have f2 := hz1.frozen 2
    have hg1 := HG2.out.trans g3
    clear hz1 g3
    go_wp2_with fail
    refine bodyPost_ret (by first | (simp [*, results, Tryz.results34, go_sem]; rfl) | simp [*, results, Tryz.results34, go_sem]) rfl ?_
    exact ⟨none, 0, [], rfl, TabAt.zero _, by (repeat' first | (with_reducible exact Grew.refl _) | (with_reducible assumption) | (with_reducible refine Grew.alloc ?_ _) | (with_reducible refine Grew.drew ?_) | (with_reducible refine Grew.drewN ?_ _) | (with_reducible refine Grew.setRow ?_ (by first | (simp; done) | (simp; omega) | omega) _) | (with_reducible refine Grew.setCell ?_ (by first | (simp; done) | (simp; omega) | omega) _) | ((with_reducible apply Grew.trans); rotate_left; (with_reducible assumption)) | ((with_reducible apply Grew.turn); rotate_left; (with_reducible assumption); (focus (intro i hi; first | omega | (simp at hi; omega)))) | fail)⟩
  rw [hi, if_neg (by omega), Int.toNat_natCast] at hr
  have HIE := Lib.hid hi
  have hkn : (k : Int) < (T.labels.length : Int) := by omega
  obtain ⟨kf, hkf⟩ : ∃ kf, freeT T = kf := ⟨_, rfl⟩
  have hkl : kf.length ≤ 128 := by rw [← hkf]; exact freeT_len T
  rw [hkf] at hr
  obtain ⟨ka, hka⟩ : ∃ ka, ints (allocS (memS kf) n 16).1 = ka := ⟨_, rfl⟩
  obtain ⟨er2, her⟩ : ∃ er2, (allocS (memS kf) n 16).2 = er2 := ⟨_, rfl⟩
  rw [hka, her] at hr
  have HKF := Lib.hid hkf
  have HKA := Lib.hid hka
  have HER := Lib.hid her
  clear hi hkf hka her
  by_cases h0 : er2 = 0
  rotate_left
  · rw [if_neg h0] at hr
    injection hr with e1 e2
    subst e1; subst e2
    have hne : (er2 != 0) = true := by rw [bne_iff_ne]; exact h0
    clear h0
    go_enter Tryz.func34, Tryz.ntmps34
    go_wp2_with fail
    refine HV.out.mono ?_
    rintro e w1 ⟨rfl, g1⟩
    rw [HVF.out]
    have hr1 := HRF.out.grew g1
    have r0 := hr1.cell 0
    have r1 := hr1.cell 1
    have hrl := hr1.lt
    have hz1 := HZ0.out.grew g1
    have hzl := hz1.lt
    have HG1 := Lib.hid (HG0.out.trans g1)
    have HB1 := Lib.hid (HB0.out.grew g1)
    have HR1 := Lib.hid hr1
    have HZ1 := Lib.hid hz1
    have b2 := HB1.out.cell 2
    have hbl := HB1.out.lt
    clear hz1 hr1 g1
    go_wp2_with fail
    refine (hasTent_any A c xs T (w.heap.size + 1) id unit w1 (HTB.out.hold HG1.out) HS.out HR1.out _ rfl).mono ?_
    rintro e w2 ⟨rfl, g2⟩
    rw [HTE.out]
    have HG2 := Lib.hid (HG1.out.trans g2)
    have HB2 := Lib.hid (HB1.out.grew g2)
    have HR2 := Lib.hid (HR1.out.grew g2)
    have HZ2 := Lib.hid (HZ1.out.grew g2)
    clear b2 hbl r0 r1 hrl hzl g2
    have b2 := HB2.out.cell 2
    have hbl := HB2.out.lt
    go_wp2_with fail
    refine (find_empty A c xs T (w.heap.size + 1) id unit w2 (HTB.out.hold HG2.out) HS.out HR2.out _ rfl).mono ?_
    rintro e w3 ⟨rfl, g3⟩
    rw [HIE.out]
    have HG3 := Lib.hid (HG2.out.trans g3)
    have HB3 := Lib.hid (HB2.out.grew g3)
    have HR3 := Lib.hid (HR2.out.grew g3)
    have HZ3 := Lib.hid (HZ2.out.grew g3)
    clear b2 hbl g3
    have b0 := HB3.out.cell 0
    have b1 := HB3.out.cell 1
    have b2 := HB3.out.cell 2
    have hbl := HB3.out.lt
    go_wp2_with fail
    refine (free_tab A c xs T w3 (HTB.out.hold HG3.out) HS.out _ rfl kf HKF.out).mono ?_
    rintro e w4 ⟨A4, c4, rfl, hr4, g4⟩
    have HG4 := Lib.hid (HG3.out.trans g4)
    have HB4 := Lib.hid (HB3.out.grew g4)
    have HR4 := Lib.hid (HR3.out.grew g4)
    have HZ4 := Lib.hid (HZ3.out.grew g4)
    clear b0 b1 b2 hbl g4
    go_wp2_with fail
    refine (alloc_new rfl (by omega) hr4 n n0 n1 16 ka er2 HKA.out HER.out).mono ?_
    rintro e w5 ⟨A5, c5, rfl, hn5, g5⟩
    clear hr4
    have hz1 := HZ4.out.grew g5
    have hzl5 := hz1.lt
    have z0 := hz1.cell 0
    have z1 := hz1.cell 1
    have z2 := hz1.cell 2
    have f0 := hz1.frozen 0
    have f1 := hz1.frozen 1
    have f2 := hz1.frozen 2
    have hg1 := HG4.out.trans g5
    clear hz1 g5 hn5
    go_wp2_with fail
    refine bodyPost_ret (by first | (simp [*, results, Tryz.results34, go_sem]; rfl) | simp [*, results, Tryz.results34, go_sem]) rfl ?_
    exact ⟨none, 0, [], rfl, TabAt.zero _, by (repeat' first | (with_reducible exact Grew.refl _) | (with_reducible assumption) | (with_reducible refine Grew.alloc ?_ _) | (with_reducible refine Grew.drew ?_) | (with_reducible refine Grew.drewN ?_ _) | (with_reducible refine Grew.setRow ?_ (by first | (simp; done) | (simp; omega) | omega) _) | (with_reducible refine Grew.setCell ?_ (by first | (simp; done) | (simp; omega) | omega) _) | ((with_reducible apply Grew.trans); rotate_left; (with_reducible assumption)) | ((with_reducible apply Grew.turn); rotate_left; (with_reducible assumption); (focus (intro i hi; first | omega | (simp at hi; omega)))) | fail)⟩
  subst h0
  rw [if_pos rfl] at hr
  injection hr with e1 e2
  subst e2
  have HT' := Lib.hid e1
  clear e1
  go_enter Tryz.func34, Tryz.ntmps34
  go_wp2_with fail
  refine HV.out.mono ?_
  rintro e w1 ⟨rfl, g1⟩
  rw [HVF.out]
  have hr1 := HRF.out.grew g1
  have r0 := hr1.cell 0
  have r1 := hr1.cell 1
  have hrl := hr1.lt
  have hz1 := HZ0.out.grew g1
  have hzl := hz1.lt
  have HG1 := Lib.hid (HG0.out.trans g1)
  have HB1 := Lib.hid (HB0.out.grew g1)
  have HR1 := Lib.hid hr1
  have HZ1 := Lib.hid hz1
  have b2 := HB1.out.cell 2
  have hbl := HB1.out.lt
  clear hz1 hr1 g1
  go_wp2_with fail
  refine (hasTent_any A c xs T (w.heap.size + 1) id unit w1 (HTB.out.hold HG1.out) HS.out HR1.out _ rfl).mono ?_
  rintro e w2 ⟨rfl, g2⟩
  rw [HTE.out]
  have HG2 := Lib.hid (HG1.out.trans g2)
  have HB2 := Lib.hid (HB1.out.grew g2)
  have HR2 := Lib.hid (HR1.out.grew g2)
  have HZ2 := Lib.hid (HZ1.out.grew g2)
  clear b2 hbl r0 r1 hrl hzl g2
  have b2 := HB2.out.cell 2
  have hbl := HB2.out.lt
  go_wp2_with fail
  refine (find_empty A c xs T (w.heap.size + 1) id unit w2 (HTB.out.hold HG2.out) HS.out HR2.out _ rfl).mono ?_
  rintro e w3 ⟨rfl, g3⟩
  rw [HIE.out]
  have HG3 := Lib.hid (HG2.out.trans g3)
  have HB3 := Lib.hid (HB2.out.grew g3)
  have HR3 := Lib.hid (HR2.out.grew g3)
  have HZ3 := Lib.hid (HZ2.out.grew g3)
  clear b2 hbl g3
  have b0 := HB3.out.cell 0
  have b1 := HB3.out.cell 1
  have b2 := HB3.out.cell 2
  have hbl := HB3.out.lt
  go_wp2_with fail
  refine (free_tab A c xs T w3 (HTB.out.hold HG3.out) HS.out _ rfl kf HKF.out).mono ?_
  rintro e w4 ⟨A4, c4, rfl, hr4, g4⟩
  have HG4 := Lib.hid (HG3.out.trans g4)
  have HB4 := Lib.hid (HB3.out.grew g4)
  have HR4 := Lib.hid (HR3.out.grew g4)
  have HZ4 := Lib.hid (HZ3.out.grew g4)
  clear b0 b1 b2 hbl g4
  go_wp2_with fail
  refine (alloc_new rfl (by omega) hr4 n n0 n1 16 ka 0 HKA.out HER.out).mono ?_
  rintro e w5 ⟨A5, c5, rfl, hn5, g5⟩
  clear hr4
  have HG5 := Lib.hid (HG4.out.trans g5)
  have HB5 := Lib.hid (HB4.out.grew g5)
  have HR5 := Lib.hid (HR4.out.grew g5)
  have HZ5 := Lib.hid (HZ4.out.grew g5)
  have HN5 := Lib.hid hn5
  clear g5 hn5
  have b0 := HB5.out.cell 0
  have b1 := HB5.out.cell 1
  have b2 := HB5.out.cell 2
  have hbl := HB5.out.lt
  go_wp2_with fail
  refine (clone_tab A c xs T w5 (HTB.out.hold HG5.out) HS.out _ rfl).mono ?_
  rintro e w6 ⟨v, ys, rfl, hto, g6⟩
  obtain ⟨g, cap, rfl, hgb, hgs⟩ : ∃ g cap, v = .slice (some ⟨g, 0, none⟩) T.labels.length cap ∧ w5.heap.size ≤ g ∧ g < w6.heap.size := by
    rcases hto.own.form with ⟨_, h0⟩ | ⟨g, cap, hv, h1, h2, -⟩
    · have := congrArg List.length h0; rw [List.length_map, hto.len, List.length_nil] at this; omega
    · rw [List.length_map, hto.len] at hv; exact ⟨g, cap, hv, h1, h2⟩
  have hl1 : k < cap := by have := hto.own.len.2.1; omega
  obtain ⟨B, d, hrow, -, -, -⟩ := hto.row hk
  have y0 : w6.cell? ⟨g, k * 5, none⟩ = some (.int .i64 T.labels[k].id) := hto.own.cell0 hrow rfl
  have y1 : w6.cell? ⟨g, k * 5 + 1, none⟩ = some (.int .i64 T.labels[k].unit) := hto.own.cell hrow (i := 1) rfl
  have y2 : w6.cell? ⟨g, k * 5 + 2, none⟩ = some (.string T.labels[k].name) := hto.own.cell hrow (i := 2) rfl
  have y3 : w6.cell? ⟨g, k * 5 + 3, none⟩ = some (.string T.labels[k].note) := hto.own.cell hrow (i := 3) rfl
  have y4 : w6.cell? ⟨g, k * 5 + 4, none⟩ = some (.slice B T.labels[k].ext.length d) := hto.own.cell hrow (i := 4) rfl
  have yf0 := hto.own.frozen (k * 5)
  have yf1 := hto.own.frozen (k * 5 + 1)
  have yf2 := hto.own.frozen (k * 5 + 2)
  have yf3 := hto.own.frozen (k * 5 + 3)
  have yf4 := hto.own.frozen (k * 5 + 4)
  have hr6 := HR5.out.grew g6
  have r60 := hr6.cell 0
  have r61 := hr6.cell 1
  have hrl6 := hr6.lt
  have hz6 := HZ5.out.grew g6
  have z0 := hz6.cell 0
  have z1 := hz6.cell 1
  have z2 := hz6.cell 2
  have f0 := hz6.frozen 0
  have f1 := hz6.frozen 1
  have f2 := hz6.frozen 2
  have hzl6 := hz6.lt
  have hz5 := HZ5.out.lt
  have hla : LabAt w6 A5 c5 ⟨id, unit, nm, nt, ka⟩ := ⟨by simp only; omega, by simp only; omega, by simp only; omega, by simp only; omega, hns, hts, (HN5.out.hold g6).1, HN5.out.2.1, HN5.out.2.2.1⟩
  have hfar : 0 < ka.length → ∀ b off, A5 = some ⟨b, off, none⟩ → b ≠ g := fun h0 b off e => by
    obtain ⟨b', off', e', hb', _⟩ := HN5.out.1.2 (by simpa using h0)
    rw [e] at e'
    injection e' with e'
    injection e' with e'
    omega
  have ht7 := (hto.set5 hk ⟨A5, c5, ⟨id, unit, nm, nt, ka⟩⟩ hla hfar).hold ((Grew.refl _).alloc (.cells #[.string T.name, .int .i64 T.tracks, .slice (some ⟨g, 0, none⟩) T.labels.length cap] 24))
  have tu7 := set5_turned w6 g (k * 5) (.int .i64 id) (.int .i64 unit) (.string nm) (.string nt) (.slice A5 ka.length c5)
  have hz7 := (hz6.turned tu7 (by omega)).alloc (.cells #[.string T.name, .int .i64 T.tracks, .slice (some ⟨g, 0, none⟩) T.labels.length cap] 24)
  have hx7 := Blk.new (((((w6.setCell ⟨g, k * 5, none⟩ (.int .i64 id)).setCell ⟨g, k * 5 + 1, none⟩ (.int .i64 unit)).setCell ⟨g, k * 5 + 2, none⟩ (.string nm)).setCell ⟨g, k * 5 + 3, none⟩ (.string nt)).setCell ⟨g, k * 5 + 4, none⟩ (.slice A5 ka.length c5)) 24 #[.string T.name, .int .i64 T.tracks, .slice (some ⟨g, 0, none⟩) T.labels.length cap] (n := w6.heap.size) (by simp [World.setCell])
  have hg7 := (((HG5.out.trans g6)).turn tu7 (fun i e => by have := HG5.out.size; omega)).alloc (.cells #[.string T.name, .int .i64 T.tracks, .slice (some ⟨g, 0, none⟩) T.labels.length cap] 24)
  have HAP := Lib.hid (ht7.apart hz7)
  have HT7 := Lib.hid ht7
  have HZ7 := Lib.hid hz7
  have HX7 := Lib.hid hx7
  have HN7 := Lib.hid ht7.nlen
  have HNM := Lib.hid (show T.name.size ≤ 9223372036854775807 ∧ -9223372036854775808 ≤ T.tracks ∧ T.tracks ≤ 9223372036854775807 from ⟨HTB.out.name, HTB.out.tr0, HTB.out.tr1⟩)
  have hww : w.heap.size + 1 + 1 < w5.heap.size := hz5
  have HG7 := Lib.hid hg7
  have hq1 : w.heap.size + 1 + 1 < g := by omega
  have hq2 : w.heap.size + 1 < g := by omega
  clear hg7 a1 a2 a3 a4 a5 a6 a7 a5i a6i hkl n0 n1 hns hts hww hgb hz5 hto hrow hr6 hz6 hla hfar ht7 tu7 hz7 hx7 g6 b0 b1 b2 hbl
  go_upto_region 13 with fail
  obtain ⟨W, hW⟩ : ∃ W, W = (((((w6.setCell ⟨g, k * 5, none⟩ (.int .i64 id)).setCell ⟨g, k * 5 + 1, none⟩ (.int .i64 unit)).setCell ⟨g, k * 5 + 2, none⟩ (.string nm)).setCell ⟨g, k * 5 + 3, none⟩ (.string nt)).setCell ⟨g, k * 5 + 4, none⟩ (.slice A5 ka.length c5)).alloc (.cells #[.string T.name, .int .i64 T.tracks, .slice (some ⟨g, 0, none⟩) T.labels.length cap] 24) := ⟨_, rfl⟩
  rw [← hW]
  rw [← hW] at HT7 HZ7 HX7 HG7
  clear hW z0 z1 z2 f0 f1 f2 y0 y1 y2 y3 y4 yf0 yf1 yf2 yf3 yf4 r60 r61
  have z0 := HZ7.out.cell 0
  have z1 := HZ7.out.cell 1
  have z2 := HZ7.out.cell 2
  have f0 := HZ7.out.frozen 0
  have f1 := HZ7.out.frozen 1
  have f2 := HZ7.out.frozen 2
  have hzl7 := HZ7.out.lt
  have x0 := HX7.out.cell 0
  have x1 := HX7.out.cell 1
  have x2 := HX7.out.cell 2
  have hxl7 := HX7.out.lt
  go_wp2_with fail
  refine bodyPost_ret (by first | (simp [*, results, Tryz.results34, go_sem]; rfl) | simp [*, results, Tryz.results34, go_sem]) rfl ?_
  refine ⟨some ⟨g, 0, none⟩, cap, ys.set k ⟨A5, c5, ⟨id, unit, nm, nt, ka⟩⟩, by rw [← HT'.out]; simp only [HN7.out], ?_, by have hg := HG7.out; (repeat' first | (with_reducible exact Grew.refl _) | (with_reducible assumption) | (with_reducible refine Grew.alloc ?_ _) | (with_reducible refine Grew.drew ?_) | (with_reducible refine Grew.drewN ?_ _) | (with_reducible refine Grew.setRow ?_ (by first | (simp; done) | (simp; omega) | omega) _) | (with_reducible refine Grew.setCell ?_ (by first | (simp; done) | (simp; omega) | omega) _) | ((with_reducible apply Grew.trans); rotate_left; (with_reducible assumption)) | ((with_reducible apply Grew.turn); rotate_left; (with_reducible assumption); (focus (intro i hi; first | omega | (simp at hi; omega)))) | fail)⟩
  rw [← HT'.out]
  exact (HT7.out.turned (S := fun k => k = w.heap.size + 1 + 1) (by (repeat' first | (with_reducible exact Turned.refl _ _) | (with_reducible assumption) | (with_reducible refine Turned.alloc ?_ _) | (with_reducible refine Turned.drew ?_) | (with_reducible refine Turned.drewN ?_ _) | (with_reducible refine Turned.setRow ?_ (by first | (simp; done) | (simp; omega) | omega) _) | (with_reducible refine Turned.setCell ?_ (by first | (simp; done) | (simp; omega) | omega) _) | ((with_reducible apply Turned.andGrew); rotate_left; (with_reducible assumption)) | ((with_reducible apply Turned.trans); rotate_left; (with_reducible assumption)) | fail)) (fun g' e => by have e' : g = g' := Option.some.inj e; omega) (fun y hy h0 b off e => HAP.out y hy h0 b off e)).tabAt _ _ HNM.out.1 HNM.out.2.1 HNM.out.2.2
end
end Go.Proofs.YtnlaogneceanoaaGreat
namespace Go.Proofs.YtnlaogneceanoaaGreat
set_option linter.unusedVariables false
set_option linter.unusedSimpArgs false
set_option linter.unusedSectionVars false
open Go.RowKit
def sectorS (l : List (Int × Int)) (s : Int) : Int × Bool := if s < 0 then (0, false) else if (atS l (s / 8)).2 = true then ((atS l (s / 8)).1 * 8 + s % 8, true) else (0, false)
theorem at_bd (l : List (Int × Int)) (t : Int) (h0 : 0 ≤ t) (h : (atS l t).2 = true) : ∃ k : Nat, (atS l t).1 = (k : Int) ∧ k < 128 ∧ inT l (k : Int) = true ∧ (seqS l)[t.toNat]? = some k := by
  obtain ⟨n, rfl⟩ : ∃ n : Nat, t = (n : Int) := ⟨t.toNat, by omega⟩
  rw [atS_pick] at h ⊢
  unfold pickT at h ⊢
  by_cases hn : n < (seqS l).length
  · rw [if_pos hn]
    have hm : (seqS l)[n] ∈ seqS l := List.getElem_mem hn
    refine ⟨(seqS l)[n], by simp [hn], seqS_lt l _ hm, by rw [inT_nat]; exact (mem_seqS l _).1 hm, by rw [Int.toNat_natCast, List.getElem?_eq_getElem hn]⟩
  · rw [if_neg hn] at h; cases h
theorem sectorS_neg (l : List (Int × Int)) (s : Int) (h : s < 0) : sectorS l s = (0, false) := if_pos h
theorem sectorS_cases (l : List (Int × Int)) (s : Int) (h : 0 ≤ s) : ((atS l (s / 8)).2 = false ∧ sectorS l s = (0, false)) ∨ ∃ k : Nat, atS l (s / 8) = ((k : Int), true) ∧ k < 128 ∧ inT l (k : Int) = true ∧ (seqS l)[(s / 8).toNat]? = some k ∧ sectorS l s = ((k : Int) * 8 + s % 8, true) := by
  cases hc : (atS l (s / 8)).2 with
  | false => exact .inl ⟨rfl, by unfold sectorS; rw [if_neg (by omega), if_neg (by rw [hc]; simp)]⟩
  | true =>
    obtain ⟨k, h1, h2, h3, h4⟩ := at_bd l (s / 8) (by omega) hc
    exact .inr ⟨k, Prod.ext h1 hc, h2, h3, h4, by unfold sectorS; rw [if_neg (by omega), if_pos hc, h1]⟩
section
variable (A : Option Addr) (c : Nat) (l : Lab) (w : World)
set_option maxRecDepth 100000 in
set_option maxHeartbeats 2000000 in
theorem sector_lab (hla : LabAt w A c l) (hs : l.ext.length ≤ 1000) (s : Int) (s0 : -9223372036854775808 ≤ s) (s1 : s ≤ 9223372036854775807) (a : Int) (b : Bool) (hab : sectorS l.ext s = (a, b)) :
    Calls Tryz.prog 36 #[.agg #[.int .i64 l.id, .int .i64 l.unit, .string l.name, .string l.note, .slice A l.ext.length c], .int .i64 s] w fun e w' => e = .returned (.tuple #[.int .i64 a, .bool b]) ∧ Grew w w' := by
  have hg0 := (Grew.refl w).alloc (.cells #[.int .i64 l.id, .int .i64 l.unit, .string l.name, .string l.note, .slice A l.ext.length c] 31)
  by_cases hn : s < 0
  · rw [sectorS_neg _ _ hn] at hab
    injection hab with e1 e2
    subst e1; subst e2
    go_enter Tryz.func36, Tryz.ntmps36
    go_wp2_with fail
    go_returns
    exact ⟨rfl, by (repeat' first | (with_reducible exact Grew.refl _) | (with_reducible assumption) | (with_reducible refine Grew.alloc ?_ _) | (with_reducible refine Grew.drew ?_) | (with_reducible refine Grew.drewN ?_ _) | (with_reducible refine Grew.setRow ?_ (by first | (simp; done) | (simp; omega) | omega) _) | (with_reducible refine Grew.setCell ?_ (by first | (simp; done) | (simp; omega) | omega) _) | ((with_reducible apply Grew.trans); rotate_left; (with_reducible assumption)) | ((with_reducible apply Grew.turn); rotate_left; (with_reducible assumption); (focus (intro i hi; first | omega | (simp at hi; omega)))) | fail)⟩
  have hs0 : 0 ≤ s := by omega
  have HC := Lib.hid (fun w1 (hg : Grew w w1) => at_val A c _ l.ext _ rfl (by omega) (hla.hold hg).runs (s / 8) (by omega) (by omega))
  have hd : s.tdiv 8 = s / 8 := Int.tdiv_eq_ediv_of_nonneg hs0
  have hm : s.tmod 8 = s % 8 := Int.tmod_eq_emod_of_nonneg hs0
  rcases sectorS_cases l.ext s hs0 with ⟨h2, hx⟩ | ⟨k, h1, h2, _, _, hx⟩
  · rw [hx] at hab
    injection hab with e1 e2
    subst e1; subst e2
    obtain ⟨⟨x, y⟩, hxy⟩ : ∃ p, atS l.ext (s / 8) = p := ⟨_, rfl⟩
    rw [hxy] at h2
    simp only at h2
    subst h2
    have HX := Lib.hid (show (if s / 8 < 0 then ((0, false) : Int × Bool) else atS l.ext (s / 8)) = (x, false) from by rw [if_neg (by omega), hxy])
    clear hx hxy hla
    go_enter Tryz.func36, Tryz.ntmps36
    go_wp2_with fail
    refine (HC.out _ hg0 _ _ HX.out).mono ?_
    rintro e w2 ⟨rfl, g2⟩
    go_wp2_with fail
    go_returns
    exact ⟨rfl, hg0.trans g2⟩
  · rw [hx] at hab
    injection hab with e1 e2
    subst e2
    have HX := Lib.hid (show (if s / 8 < 0 then ((0, false) : Int × Bool) else atS l.ext (s / 8)) = ((k : Int), true) from by rw [if_neg (by omega), h1])
    have hmb : 0 ≤ s % 8 ∧ s % 8 < 8 := by omega
    have HA := Lib.hid e1
    clear hx h1 hla e1
    go_enter Tryz.func36, Tryz.ntmps36
    go_wp2_with fail
    refine (HC.out _ hg0 _ _ HX.out).mono ?_
    rintro e w2 ⟨rfl, g2⟩
    go_wp2_with fail
    go_returns
    exact ⟨ret_ib (by rw [← HA.out] <;> omega) rfl, hg0.trans g2⟩
end
def awS : ByteArray := ⟨#[86, 79, 76]⟩
def awN : ByteArray := ⟨#[110, 111, 116, 101]⟩
def awT1 : Tab := ⟨awS, 16, [labZ, labZ, labZ]⟩
def awT2 : Tab := ⟨awS, 16, [⟨5, 2, ⟨#[65]⟩, ⟨#[]⟩, [(4, 3)]⟩, labZ, labZ]⟩
def awT3 : Tab := ⟨awS, 16, [⟨5, 0, ⟨#[65]⟩, awN, [(4, 3)]⟩, labZ, labZ]⟩
theorem aw_new : newT awS 16 = (awT1, 0) := by kernel_rfl
theorem aw_create : createT awT1 5 2 ⟨#[65]⟩ ⟨#[]⟩ 3 = (awT2, 0) := by kernel_rfl
theorem aw_confirm : chgT awT2 5 2 (chCon awT2 5 awN) = (awT3, 0) := by kernel_rfl
theorem aw_find : fndT awT3 5 0 = (⟨5, 0, ⟨#[65]⟩, awN, [(4, 3)]⟩, true) := by kernel_rfl
theorem aw_sector : sectorS [(4, 3)] 9 = (41, true) := by decide +kernel
end Go.Proofs.YtnlaogneceanoaaGreat
