/- Chapter 8: one more label behind a list of labels. Chapter 8: Extend and Release of chapter 6, once more: what they return is new. Chapter 8: what the changes do with a label. Chapter 8: what Replace and Confirm do with a label. Chapter 8: what Confirm does with a label. A slice of the call's own, cut to its first elements; 'clear' on the others. Chapter 8: change, and the changes of one label. Chapter 8: the program's Load. Chapter 8: Extend, Release, Replace, Confirm, Note, Remove. -/
import Derived.Laws.CopyRow
import Derived.Test.YtnlaogneceanoaaGreatCxA
import Derived.Test.YtnlaogneceanoaaGreatCxB
import Derived.Test.YtnlaogneceanoaaGreatCxH
import Derived.Test.YtnlaogneceanoaaGreatCxI
namespace Go.Proofs.YtnlaogneceanoaaGreat
set_option linter.unusedVariables false
set_option linter.unusedSimpArgs false
set_option linter.unusedSectionVars false
open Go.RowKit
theorem grown_turned {W w' : World} {row : Option Nat} (h : W.grownBy w' row) : Turned (fun k => row = some k) W w' := ⟨h.os, h.tape, h.output, h.size, fun k hk hn => h.block k hk (fun e => hn e.symm)⟩
/-- One more label. -/
theorem TabO.push {W w' : World} {base : Nat} {v : Value} {ys : List LabE} {ls : List Lab} (h : TabO W base v ys ls) (y : LabE) {g n cap : Nat} (hown : OwnL w' base 31 5 (.slice (some ⟨g, 0, none⟩) n cap) (ys.map labC ++ [labC y]))
    (hgr : W.grownBy w' v.ownBlock) (hat : v.ownBlock = some g ∨ g = W.heap.size) (hy : LabAt W y.A y.c y.l) (hf : 0 < y.l.ext.length → ∀ b off, y.A = some ⟨b, off, none⟩ → v.ownBlock ≠ some b) :
    TabO w' base (.slice (some ⟨g, 0, none⟩) n cap) (ys ++ [y]) (ls ++ [y.l]) := by
  have hall : ∀ z ∈ ys ++ [y], LabAt W z.A z.c z.l ∧ (0 < z.l.ext.length → ∀ b off, z.A = some ⟨b, off, none⟩ → v.ownBlock ≠ some b) := fun z hz => by
    rcases List.mem_append.1 hz with hz | hz
    · exact ⟨h.lab z hz, h.far z hz⟩
    · rw [List.mem_singleton.1 hz]; exact ⟨hy, hf⟩
  refine ⟨by rw [List.map_append]; exact hown, fun z hz => ?_, fun z hz h0 b off e => ?_, by rw [List.map_append, h.eq]; rfl⟩
  · exact (hall z hz).1.turned (grown_turned hgr) (fun h0 b off e => (hall z hz).2 h0 b off e)
  · have hfb := (hall z hz).2 h0 b off e
    obtain ⟨b', off', e', hb', _⟩ := (hall z hz).1.runs.2 (by simpa using h0)
    rw [e] at e'
    injection e' with e'
    injection e' with e'
    subst e'
    intro e2
    have e3 : g = b := by simpa [Value.ownBlock] using e2
    rcases hat with hat | hat
    · exact hfb (by rw [hat, e3])
    · omega
theorem decP_pair (s : ByteArray) (t : Int) : (∃ l, decP s t = (l, 0) ∧ l.ext.length ≤ 1000) ∨ decP s t = (labZ, 11) := by
  unfold decP
  split
  · exact .inr rfl
  · split
    · exact .inl ⟨labZ, rfl, Nat.zero_le _⟩
    · split
      · rename_i h
        obtain ⟨_, _, ⟨_, v8⟩, _⟩ := valid_facts _ t h.1
        refine .inl ⟨rL 128 s, rfl, ?_⟩
        omega
      · exact .inr rfl
theorem small_zero : SmallT tabZ := ⟨by decide, fun l hl => by cases hl⟩
end Go.Proofs.YtnlaogneceanoaaGreat
namespace Go.Proofs.YtnlaogneceanoaaGreat
set_option linter.unusedVariables false
set_option linter.unusedSimpArgs false
set_option linter.unusedSectionVars false
open Go.RowKit
/-- Runs in a slice that is newer than w. -/
def NewRuns (w w' : World) (A : Option Addr) (c : Nat) (k : List (Int × Int)) : Prop := RunsAt w' w'.heap.size A k ∧ k.length ≤ c ∧ c ≤ 9223372036854775807 ∧ ∀ b off, A = some ⟨b, off, none⟩ → w.heap.size ≤ b
theorem NewRuns.nil (w w' : World) : NewRuns w w' none 0 [] := ⟨nil_runs w', Nat.le_refl _, by omega, fun b off e => by cases e⟩
theorem NewRuns.of_own {w w' : World} {v : Value} {l : List (Nat × Nat)} {k : List (Int × Int)} (h : OwnL w' w.heap.size 65 2 v (l.map rowN)) (hb : ∀ r ∈ l, r.1 + r.2 ≤ 128) (hk : ints l = k) : ∃ A c, v = .slice A k.length c ∧ NewRuns w w' A c k := by
  obtain ⟨A, c, hv, hr, h1, h2, h3⟩ := own_runs2 h (fun r hr => Nat.le_trans (hb r hr) (by omega))
  subst hk
  exact ⟨A, c, by rw [ints_len]; exact hv, hr, by rw [ints_len]; exact h1, h2, fun b off e => (h3 b off e).1⟩
section
variable {A : Option Addr} {c m : Nat} {l : List (Int × Int)} {w : World}
theorem alloc_new (hn : m = l.length) (hl : l.length ≤ 1000000) (hr : RunsAt w w.heap.size A l) (n : Int) (n0 : -9223372036854775808 ≤ n) (n1 : n ≤ 9223372036854775807) (most : Int) (k : List (Int × Int)) (er : Int) (hk : ints (allocS (memS l) n most).1 = k) (he : (allocS (memS l) n most).2 = er) :
    Calls Tryz.prog 88 #[.slice A m c, .int .i64 n, .int .i64 most] w fun e w' => ∃ A c, e = .returned (.tuple #[.slice A k.length c, .int .i64 er]) ∧ NewRuns w w' A c k ∧ Grew w w' := by
  subst hn; subst he
  refine (alloc_any A c l w w.heap.size (Nat.le_refl _) hl hr n n0 n1 most).mono ?_
  rintro e w1 ⟨v, rfl, hown, g1⟩
  obtain ⟨A', c', hv, hr'⟩ := NewRuns.of_own hown (alloc_bd _ _ _) hk
  exact ⟨A', c', by rw [hv], hr', g1⟩
theorem NewRuns.hold {w w1 w2 : World} {k : List (Int × Int)} (h : NewRuns w w1 A c k) (hg : Grew w1 w2) : NewRuns w w2 A c k := ⟨h.1.hold hg, h.2⟩
end
end Go.Proofs.YtnlaogneceanoaaGreat
namespace Go.Proofs.YtnlaogneceanoaaGreat
set_option linter.unusedVariables false
set_option linter.unusedSimpArgs false
set_option linter.unusedSectionVars false
open Go.RowKit
attribute [local go_sem ↓] Go.wp_at_zero Go.wp_at_succ
def chCon (T : Tab) (id : Int) (note : ByteArray) (k : Nat) (l : Lab) : List Lab × Int :=
  if l.unit = 0 then (T.labels, 9) else if 400 < note.size then (T.labels, 1)
  else ((if 0 ≤ idxT T id 0 then T.labels.set (idxT T id 0).toNat labZ else T.labels).set k { l with unit := 0, note := note }, 0)
def chgT (T : Tab) (id unit : Int) (F : Nat → Lab → List Lab × Int) : Tab × Int :=
  if validT T = true then
    if 0 ≤ idxT T id unit then
      (if (F (idxT T id unit).toNat (T.labels.getD (idxT T id unit).toNat labZ)).2 = 0 then ({ T with labels := (F (idxT T id unit).toNat (T.labels.getD (idxT T id unit).toNat labZ)).1 }, 0) else (tabZ, (F (idxT T id unit).toNat (T.labels.getD (idxT T id unit).toNat labZ)).2))
    else (tabZ, 6)
  else (tabZ, 1)
/-- Where a changed table lies while it is changed: its labels in block g, the variable itself in block xo. -/
structure OutAt (w w1 : World) (base g cap xo : Nat) (ys : List LabE) (T : Tab) : Prop where
  grew : Grew w w1
  hg : w.heap.size ≤ g
  hx : w.heap.size ≤ xo
  ne : xo ≠ g
  tab : TabO w1 base (.slice (some ⟨g, 0, none⟩) T.labels.length cap) ys T.labels
  blk : Blk w1 xo 24 #[.string T.name, .int .i64 T.tracks, .slice (some ⟨g, 0, none⟩) T.labels.length cap]
/-- A closure's contract: it makes labels and an error of a label. -/
def ChgR (w1 : World) (base g cap n : Nat) (r : List Lab × Int) (e : Ending) (w2 : World) : Prop :=
  e = .returned (.int .i64 r.2) ∧ (∃ ys, TabO w2 base (.slice (some ⟨g, 0, none⟩) n cap) ys r.1) ∧ Turned (fun x => x = g) w1 w2
theorem TabO.row {w : World} {base g n cap : Nat} {ys : List LabE} {ls : List Lab} (h : TabO w base (.slice (some ⟨g, 0, none⟩) n cap) ys ls) {k : Nat} (hk : k < ls.length) :
    ∃ B d, (ys.map labC)[k]? = some (labC ⟨B, d, ls[k]⟩) ∧ LabAt w B d ls[k] ∧ (0 < ls[k].ext.length → ∀ b off, B = some ⟨b, off, none⟩ → b ≠ g) ∧ ys[k]? = some ⟨B, d, ls[k]⟩ := by
  have hy : k < ys.length := by rw [h.len]; exact hk
  have h1 : (ys.map (·.l))[k]? = some ys[k].l := by rw [List.getElem?_map, List.getElem?_eq_getElem hy]; rfl
  rw [h.eq, List.getElem?_eq_getElem hk] at h1
  have h2 := Option.some.inj h1
  have h3 : ys[k] = ⟨ys[k].A, ys[k].c, ls[k]⟩ := by rw [h2]
  refine ⟨ys[k].A, ys[k].c, by rw [List.getElem?_map, List.getElem?_eq_getElem hy, ← h3]; rfl, by rw [h2]; exact h.lab _ (List.getElem_mem hy), fun h0 b off e => ?_, by rw [List.getElem?_eq_getElem hy, ← h3]⟩
  have := h.far ys[k] (List.getElem_mem hy) (by rw [← h2]; exact h0) b off e
  intro e2
  exact this (by rw [e2]; rfl)
theorem OwnL.cell0 {w : World} {base e sz g n cap : Nat} {rows : List (List Value)} (h : OwnL w base e sz (.slice (some ⟨g, 0, none⟩) n cap) rows) {j : Nat} {r : List Value} {u : Value} (hj : rows[j]? = some r) (hi : r[0]? = some u) : w.cell? ⟨g, j * sz, none⟩ = some u := h.cell hj hi
theorem OwnL.block_lt {w : World} {base e sz g n cap : Nat} {rows : List (List Value)} (h : OwnL w base e sz (.slice (some ⟨g, 0, none⟩) n cap) rows) : base ≤ g ∧ g < w.heap.size := h.own_ge rfl
theorem set_turned (w : World) (g o : Nat) (u : Value) : Turned (fun x => x = g) w (w.setCell ⟨g, o, none⟩ u) := (Turned.refl (fun x => x = g) w).setCell (p := ⟨g, o, none⟩) (fun _ => rfl) u
/-- One cell of one label is another one now. -/
theorem TabO.field {w : World} {base g n cap : Nat} {ys : List LabE} {ls : List Lab} (h : TabO w base (.slice (some ⟨g, 0, none⟩) n cap) ys ls) {k : Nat} (hk : k < ls.length) {B : Option Addr} {d : Nat} (hrow : (ys.map labC)[k]? = some (labC ⟨B, d, ls[k]⟩)) (i : Nat) (hi : i < 5) (u : Value) (y : LabE) (hy : labC y = (labC ⟨B, d, ls[k]⟩).set i u)
    (hl : LabAt w y.A y.c y.l) (hf : 0 < y.l.ext.length → ∀ b off, y.A = some ⟨b, off, none⟩ → b ≠ g) : TabO (w.setCell ⟨g, k * 5 + i, none⟩ u) base (.slice (some ⟨g, 0, none⟩) n cap) (ys.set k y) (ls.set k y.l) :=
  h.set_ k y hk (by rw [hy]; exact h.own.set_ hrow hi rfl u) (set_turned w g _ u) (hl.turned (set_turned w g _ u) (fun h0 b off e => hf h0 b off e)) hf
theorem TabO.after {w : World} {base g n cap : Nat} {ys : List LabE} {ls : List Lab} {k : Nat} {y : LabE} (hk : k < ys.length) : ((ys.set k y).map labC)[k]? = some (labC y) := by
  rw [List.getElem?_map, List.getElem?_set_self hk]; rfl
/-- A whole label of the own slice is stored anew, cell by cell. -/
theorem OwnL.set5 {w : World} {base e g n cap : Nat} {rows : List (List Value)} (h : OwnL w base e 5 (.slice (some ⟨g, 0, none⟩) n cap) rows) {j : Nat} {r : List Value} (hj : rows[j]? = some r) (a b c d f : Value) :
    OwnL (((((w.setCell ⟨g, j * 5, none⟩ a).setCell ⟨g, j * 5 + 1, none⟩ b).setCell ⟨g, j * 5 + 2, none⟩ c).setCell ⟨g, j * 5 + 3, none⟩ d).setCell ⟨g, j * 5 + 4, none⟩ f) base e 5 (.slice (some ⟨g, 0, none⟩) n cap) (rows.set j [a, b, c, d, f]) := by
  have hl : r.length = 5 := h.1 r (List.mem_of_getElem? hj)
  have hlt : j < rows.length := (List.getElem?_eq_some_iff.1 hj).1
  have h0 := h.set_ (i := 0) (o := j * 5) hj (by omega) rfl a
  have h1 := h0.set_ (i := 1) (o := j * 5 + 1) (List.getElem?_set_self hlt) (by omega) rfl b
  rw [List.set_set] at h1
  have h2 := h1.set_ (i := 2) (o := j * 5 + 2) (List.getElem?_set_self hlt) (by omega) rfl c
  rw [List.set_set] at h2
  have h3 := h2.set_ (i := 3) (o := j * 5 + 3) (List.getElem?_set_self hlt) (by omega) rfl d
  rw [List.set_set] at h3
  have h4 := h3.set_ (i := 4) (o := j * 5 + 4) (List.getElem?_set_self hlt) (by omega) rfl f
  rw [List.set_set] at h4
  match r, hl with
  | [r0, r1, r2, r3, r4], _ => exact h4
theorem set5_turned (w : World) (g o : Nat) (a b c d f : Value) : Turned (fun x => x = g) w (((((w.setCell ⟨g, o, none⟩ a).setCell ⟨g, o + 1, none⟩ b).setCell ⟨g, o + 2, none⟩ c).setCell ⟨g, o + 3, none⟩ d).setCell ⟨g, o + 4, none⟩ f) :=
  ((((set_turned w g _ a).trans (set_turned _ g _ b)).trans (set_turned _ g _ c)).trans (set_turned _ g _ d)).trans (set_turned _ g _ f)
theorem TabO.set5 {w : World} {base g n cap : Nat} {ys : List LabE} {ls : List Lab} (h : TabO w base (.slice (some ⟨g, 0, none⟩) n cap) ys ls) {k : Nat} (hk : k < ls.length) (y : LabE)
    (hl : LabAt w y.A y.c y.l) (hf : 0 < y.l.ext.length → ∀ b off, y.A = some ⟨b, off, none⟩ → b ≠ g) :
    TabO (((((w.setCell ⟨g, k * 5, none⟩ (.int .i64 y.l.id)).setCell ⟨g, k * 5 + 1, none⟩ (.int .i64 y.l.unit)).setCell ⟨g, k * 5 + 2, none⟩ (.string y.l.name)).setCell ⟨g, k * 5 + 3, none⟩ (.string y.l.note)).setCell ⟨g, k * 5 + 4, none⟩ (.slice y.A y.l.ext.length y.c)) base (.slice (some ⟨g, 0, none⟩) n cap) (ys.set k y) (ls.set k y.l) := by
  obtain ⟨B, d, hrow, _, _, _⟩ := h.row hk
  exact h.set_ k y hk (h.own.set5 hrow _ _ _ _ _) (set5_turned w g _ _ _ _ _ _) (hl.turned (set5_turned w g _ _ _ _ _ _) (fun h0 b off e => hf h0 b off e)) hf
section
variable (w w1 : World) (base g cap xo : Nat) (ys : List LabE) (T : Tab) (k : Nat) (hk : k < T.labels.length) (h : OutAt w w1 base g cap xo ys T)
include h
end
end Go.Proofs.YtnlaogneceanoaaGreat
namespace Go.Proofs.YtnlaogneceanoaaGreat
set_option linter.unusedVariables false
set_option linter.unusedSimpArgs false
set_option linter.unusedSectionVars false
open Go.RowKit
attribute [local go_sem ↓] Go.wp_at_zero Go.wp_at_succ
theorem TabO.row0 {w : World} {base g n cap : Nat} {ys : List LabE} {ls : List Lab} (h : TabO w base (.slice (some ⟨g, 0, none⟩) n cap) ys ls) {k : Nat} (hk : k < ls.length) : w.cell? ⟨g, k * 5, none⟩ = some (.int .i64 ls[k].id) := by
  obtain ⟨B, d, hrow, _, _, _⟩ := h.row hk
  exact h.own.cell0 hrow rfl
theorem TabO.row1 {w : World} {base g n cap : Nat} {ys : List LabE} {ls : List Lab} (h : TabO w base (.slice (some ⟨g, 0, none⟩) n cap) ys ls) {k : Nat} (hk : k < ls.length) : w.cell? ⟨g, k * 5 + 1, none⟩ = some (.int .i64 ls[k].unit) := by
  obtain ⟨B, d, hrow, _, _, _⟩ := h.row hk
  exact h.own.cell hrow (i := 1) rfl
theorem TabO.row3 {w : World} {base g n cap : Nat} {ys : List LabE} {ls : List Lab} (h : TabO w base (.slice (some ⟨g, 0, none⟩) n cap) ys ls) {k : Nat} (hk : k < ls.length) : w.cell? ⟨g, k * 5 + 3, none⟩ = some (.string ls[k].note) := by
  obtain ⟨B, d, hrow, _, _, _⟩ := h.row hk
  exact h.own.cell hrow (i := 3) rfl
theorem TabO.unit_ {w : World} {base g n cap : Nat} {ys : List LabE} {ls : List Lab} (h : TabO w base (.slice (some ⟨g, 0, none⟩) n cap) ys ls) {k : Nat} (hk : k < ls.length) (u : Int) (hu : -9223372036854775808 ≤ u ∧ u ≤ 9223372036854775807) : ∃ ys', TabO (w.setCell ⟨g, k * 5 + 1, none⟩ (.int .i64 u)) base (.slice (some ⟨g, 0, none⟩) n cap) ys' (ls.set k { ls[k] with unit := u }) := by
  obtain ⟨B, d, hrow, hla, hfar, _⟩ := h.row hk
  exact ⟨_, h.field hk hrow 1 (by decide) (.int .i64 u) ⟨B, d, { ls[k] with unit := u }⟩ rfl ⟨hla.id0, hla.id1, hu.1, hu.2, hla.name, hla.note, hla.runs, hla.len, hla.cap⟩ hfar⟩
theorem TabO.note_ {w : World} {base g n cap : Nat} {ys : List LabE} {ls : List Lab} (h : TabO w base (.slice (some ⟨g, 0, none⟩) n cap) ys ls) {k : Nat} (hk : k < ls.length) (u : ByteArray) (hu : u.size ≤ 9223372036854775807) : ∃ ys', TabO (w.setCell ⟨g, k * 5 + 3, none⟩ (.string u)) base (.slice (some ⟨g, 0, none⟩) n cap) ys' (ls.set k { ls[k] with note := u }) := by
  obtain ⟨B, d, hrow, hla, hfar, _⟩ := h.row hk
  exact ⟨_, h.field hk hrow 3 (by decide) (.string u) ⟨B, d, { ls[k] with note := u }⟩ rfl ⟨hla.id0, hla.id1, hla.unit0, hla.unit1, hla.name, hu, hla.runs, hla.len, hla.cap⟩ hfar⟩
theorem TabO.tabAt {w : World} {base g n cap : Nat} {ys : List LabE} {ls : List Lab} (h : TabO w base (.slice (some ⟨g, 0, none⟩) n cap) ys ls) (nm : ByteArray) (t : Int) (hn : nm.size ≤ 9223372036854775807) (t0 : -9223372036854775808 ≤ t) (t1 : t ≤ 9223372036854775807) : TabAt w (some ⟨g, 0, none⟩) cap ys ⟨nm, t, ls⟩ := by
  obtain ⟨A, c, hv, ht⟩ := h.form
  injection hv with h1 _ h3
  rw [h1, h3]
  exact ht nm t hn t0 t1
section
variable (w w1 : World) (base g cap xo : Nat) (ys : List LabE) (T : Tab) (k : Nat) (hk : k < T.labels.length) (h : OutAt w w1 base g cap xo ys T)
include h
end
end Go.Proofs.YtnlaogneceanoaaGreat
namespace Go.Proofs.YtnlaogneceanoaaGreat
set_option linter.unusedVariables false
set_option linter.unusedSimpArgs false
set_option linter.unusedSectionVars false
open Go.RowKit
attribute [local go_sem ↓] Go.wp_at_zero Go.wp_at_succ
theorem TabO.drew {w : World} {base : Nat} {v : Value} {ys : List LabE} {ls : List Lab} (h : TabO w base v ys ls) : TabO w.drew base v ys ls := h.hold (Grew.refl w).drew
section
variable (w w1 : World) (base g cap xo : Nat) (ys : List LabE) (T : Tab) (k : Nat) (hk : k < T.labels.length) (h : OutAt w w1 base g cap xo ys T)
include h
set_option maxRecDepth 100000 in
set_option maxHeartbeats 8000000 in
theorem confirm1_any (hs : SmallT T) (hn0 : T.name.size ≤ 9223372036854775807) (ht0 : -9223372036854775808 ≤ T.tracks) (ht1 : T.tracks ≤ 9223372036854775807) (note : ByteArray) (hns : note.size ≤ 9223372036854775807) (id unit : Int) (gn gr : Nat) (hbn : Blk w gn 9 #[.string note]) (hbr : Blk w gr 26 #[.int .i64 id, .int .i64 unit]) :
    Calls Tryz.prog 91 #[.pointer (some ⟨g, k * 5, none⟩), .pointer (some ⟨xo, 0, none⟩), .pointer (some ⟨gn, 0, none⟩), .pointer (some ⟨gr, 0, none⟩)] w1 (ChgR w1 base g cap T.labels.length (chCon T id note k T.labels[k])) := by
  have hbn1 := hbn.grew h.grew
  have hbr1 := hbr.grew h.grew
  have hg1 := h.tab.own.block_lt.2
  have hxo := h.blk.lt
  have hgn := hbn1.lt
  have hgr := hbr1.lt
  have hne := h.ne
  have hgng : ¬ gn = g := by have := h.hg; have := hbn.lt; omega
  have hgrg : ¬ gr = g := by have := h.hg; have := hbr.lt; omega
  have y0 : w1.cell? ⟨g, k * 5, none⟩ = some (.int .i64 T.labels[k].id) := h.tab.row0 hk
  have y1 : w1.cell? ⟨g, k * 5 + 1, none⟩ = some (.int .i64 T.labels[k].unit) := h.tab.row1 hk
  have n0 := hbn1.cell 0
  have r0 := hbr1.cell 0
  have HTAB := Lib.hid h.tab
  have HBO := Lib.hid h.blk
  have HBN := Lib.hid hbn1
  have HBR := Lib.hid hbr1
  have HC := Lib.hid (show chCon T id note k T.labels[k] = if T.labels[k].unit = 0 then (T.labels, 9) else if 400 < note.size then (T.labels, 1)
  else ((if 0 ≤ idxT T id 0 then T.labels.set (idxT T id 0).toNat labZ else T.labels).set k { T.labels[k] with unit := 0, note := note }, 0) from rfl)
  have hxs := h.blk
  clear h hbn hbr hbn1 hbr1
  cases hu : (T.labels[k].unit == 0) with
  | true =>
    have HE := Lib.hid (HC.out.trans (if_pos (by simpa using hu)))
    clear hxs
    go_enter Tryz.func91, Tryz.ntmps91
    go_wp2_with fail
    go_ret
    rw [HE.out]
    exact ⟨rfl, ⟨_, HTAB.out⟩, by (repeat' first | (with_reducible exact Turned.refl _ _) | (with_reducible assumption) | (with_reducible refine Turned.alloc ?_ _) | (with_reducible refine Turned.drew ?_) | (with_reducible refine Turned.drewN ?_ _) | (with_reducible refine Turned.setRow ?_ (by first | (simp; done) | (simp; omega) | omega) _) | (with_reducible refine Turned.setCell ?_ (by first | (simp; done) | (simp; omega) | omega) _) | ((with_reducible apply Turned.andGrew); rotate_left; (with_reducible assumption)) | ((with_reducible apply Turned.trans); rotate_left; (with_reducible assumption)) | fail)⟩
  | false =>
    have hu' : T.labels[k].unit ≠ 0 := by simpa using hu
    by_cases hn : 400 < note.size
    · have HE := Lib.hid (HC.out.trans (by rw [if_neg hu', if_pos hn]))
      have hni : (note.size : Int) > 400 := by omega
      clear hxs
      go_enter Tryz.func91, Tryz.ntmps91
      go_wp2_with fail
      go_ret
      rw [HE.out]
      exact ⟨rfl, ⟨_, HTAB.out⟩, by (repeat' first | (with_reducible exact Turned.refl _ _) | (with_reducible assumption) | (with_reducible refine Turned.alloc ?_ _) | (with_reducible refine Turned.drew ?_) | (with_reducible refine Turned.drewN ?_ _) | (with_reducible refine Turned.setRow ?_ (by first | (simp; done) | (simp; omega) | omega) _) | (with_reducible refine Turned.setCell ?_ (by first | (simp; done) | (simp; omega) | omega) _) | ((with_reducible apply Turned.andGrew); rotate_left; (with_reducible assumption)) | ((with_reducible apply Turned.trans); rotate_left; (with_reducible assumption)) | fail)⟩
    have hni : ¬ (note.size : Int) > 400 := by omega
    obtain ⟨ix, hix⟩ : ∃ ix, idxT T id 0 = ix := ⟨_, rfl⟩
    have hTA := HTAB.out.tabAt T.name T.tracks hn0 ht0 ht1
    have HIX := Lib.hid (fun w2 (g2 : Grew w1 w2) => cindex_any _ _ _ T id 0 w2 (hTA.hold g2) hs T.labels.length rfl ix hix)
    have hS : (fun w' : World => w'.cell? ⟨xo, 0, none⟩ = some (.string T.name) ∧ w'.cell? ⟨xo, 1, none⟩ = some (.int .i64 T.tracks) ∧ w'.cell? ⟨xo, 2, none⟩ = some (.slice (some ⟨g, 0, none⟩) T.labels.length cap) ∧ w'.cell? ⟨gr, 0, none⟩ = some (.int .i64 id)) w1.drew := ⟨hxs.drew.cell 0, hxs.drew.cell 1, hxs.drew.cell 2, r0⟩
    rcases idxP_cases (hitL id 0) T.labels with ⟨j, hj, hj1, hj2, _⟩ | ⟨hj1, _⟩
    · have hij : ix = (j : Int) := hix.symm.trans hj1
      obtain ⟨_, _, hj3⟩ := (hitL_iff _ _ _).1 hj2
      have hjk : j ≠ k := by rintro rfl; exact hu' hj3
      subst hij
      have HE := Lib.hid (HC.out.trans (by rw [if_neg hu', if_neg hn, if_pos (by rw [hix]; omega), hix, Int.toNat_natCast]))
      have hjn : (j : Int) < (T.labels.length : Int) := by omega
      have HLK := Lib.hid (show (T.labels.set j labZ)[k]'(by simpa using hk) = T.labels[k] from List.getElem_set_ne hjk _)
      clear hix hTA hj1 hj2 hxs hu'
      go_enter Tryz.func91, Tryz.ntmps91
      go_wp2_with fail
      refine wp_region_R [] (fun w' : World => w'.cell? ⟨xo, 0, none⟩ = some (.string T.name) ∧ w'.cell? ⟨xo, 1, none⟩ = some (.int .i64 T.tracks) ∧ w'.cell? ⟨xo, 2, none⟩ = some (.slice (some ⟨g, 0, none⟩) T.labels.length cap) ∧ w'.cell? ⟨gr, 0, none⟩ = some (.int .i64 id)) (by kernel_rfl) ?_
      refine wpAnyR_takeQ (i := 0) (v := ?_) (some 16) rfl rfl (by kernel_rfl) (by kernel_rfl) (by kernel_rfl) (by kernel_rfl) (fun _ _ _ h => h) (Or.inl ⟨by rfl, ?_⟩) ?_
      rotate_left
      focus (intro wS hSw; (try dsimp only at hSw); go_simp; (try with_reducible rfl); (try (first | (rw [if_pos (by omega)]; (try go_simp); (try with_reducible rfl)) | (rw [if_neg (by omega)]; (try go_simp); (try with_reducible rfl)))))
      try simp only [Act.put, zA, zB, zC]
      refine wpAnyR_take (i := 1) (v := ?_) [2, 6, 7] (some 17) rfl rfl (by kernel_rfl) (by kernel_rfl) (by kernel_rfl) (by kernel_rfl) (by kernel_rfl) (by kernel_rfl) (by kernel_rfl) (fun _ _ _ h => h) (Or.inl ⟨by rfl, ?_⟩) hS ?_
      rotate_left
      focus (intro wS hSw; (try dsimp only at hSw); go_simp; (try with_reducible rfl); (try (first | (rw [if_pos (by omega)]; (try go_simp); (try with_reducible rfl)) | (rw [if_neg (by omega)]; (try go_simp); (try with_reducible rfl)))))
      try simp only [Act.put, zA, zB, zC]
      refine wpAnyR_take (i := 2) (v := ?_) [6, 7] (some 18) rfl rfl (by kernel_rfl) (by kernel_rfl) (by kernel_rfl) (by kernel_rfl) (by kernel_rfl) (by kernel_rfl) (by kernel_rfl) (fun _ _ _ h => h) (Or.inl ⟨by rfl, ?_⟩) hS ?_
      rotate_left
      focus (intro wS hSw; (try dsimp only at hSw); go_simp; (try with_reducible rfl); (try (first | (rw [if_pos (by omega)]; (try go_simp); (try with_reducible rfl)) | (rw [if_neg (by omega)]; (try go_simp); (try with_reducible rfl)))))
      try simp only [Act.put, zA, zB, zC]
      refine wpAnyR_takeQ (i := 3) (v := ?_) (some 19) rfl rfl (by kernel_rfl) (by kernel_rfl) (by kernel_rfl) (by kernel_rfl) (fun _ _ _ h => h) (Or.inl ⟨by rfl, ?_⟩) ?_
      rotate_left
      focus (intro wS hSw; (try dsimp only at hSw); go_simp; (try with_reducible rfl); (try (first | (rw [if_pos (by omega)]; (try go_simp); (try with_reducible rfl)) | (rw [if_neg (by omega)]; (try go_simp); (try with_reducible rfl)))))
      try simp only [Act.put, zA, zB, zC]
      refine wpAnyR_take (i := 4) (v := ?_) [5, 6, 7] (some 20) rfl rfl (by kernel_rfl) (by kernel_rfl) (by kernel_rfl) (by kernel_rfl) (by kernel_rfl) (by kernel_rfl) (by kernel_rfl) (fun _ _ _ h => h) (Or.inl ⟨by rfl, ?_⟩) hS ?_
      rotate_left
      focus (intro wS hSw; (try dsimp only at hSw); go_simp; (try with_reducible rfl); (try (first | (rw [if_pos (by omega)]; (try go_simp); (try with_reducible rfl)) | (rw [if_neg (by omega)]; (try go_simp); (try with_reducible rfl)))))
      try simp only [Act.put, zA, zB, zC]
      refine wpAnyR_takeQ (i := 5) (v := ?_) (some 21) rfl rfl (by kernel_rfl) (by kernel_rfl) (by kernel_rfl) (by kernel_rfl) (fun _ _ _ h => h) (Or.inl ⟨by rfl, ?_⟩) ?_
      rotate_left
      focus (intro wS hSw; (try dsimp only at hSw); go_simp; (try with_reducible rfl); (try (first | (rw [if_pos (by omega)]; (try go_simp); (try with_reducible rfl)) | (rw [if_neg (by omega)]; (try go_simp); (try with_reducible rfl)))))
      try simp only [Act.put, zA, zB, zC]
      refine wpAnyR_n1 (i := 6) rfl (by kernel_rfl) ?_
      intro K' hK
      rw [if_pos (by rfl)]
      simp only [List.getElem_toArray, List.getElem_cons_succ, List.getElem_cons_zero]
      go_wp2_with fail
      refine (HIX.out _ (Grew.refl w1).drew).mono ?_
      rintro e w2 ⟨rfl, g2⟩
      have g2' : Grew w1 w2 := (Grew.refl w1).drew.trans g2
      go_wp2_with fail
      refine hK.out _ _ (.inr (fun h => by
        simp only [g2'.cellEq _ _ hxo, g2'.cellEq _ _ hgr]
        exact hS)) ?_
      clear hK hS
      refine wpAnyR_takeQ (i := 7) (v := ?_) (some 7) rfl rfl (by kernel_rfl) (by kernel_rfl) (by kernel_rfl) (by kernel_rfl) (fun _ _ _ h => h) (Or.inl ⟨by rfl, ?_⟩) ?_
      rotate_left
      focus (intro wS hSw; (try dsimp only at hSw); go_simp; (try with_reducible rfl); (try (first | (rw [if_pos (by omega)]; (try go_simp); (try with_reducible rfl)) | (rw [if_neg (by omega)]; (try go_simp); (try with_reducible rfl)))))
      try simp only [Act.put, zA, zB, zC]
      refine wpAnyR_done (by kernel_rfl) ?_ _
      have o2 := HBO.out.grew g2'
      have u0 := o2.cell 0
      have u1 := o2.cell 1
      have u2 := o2.cell 2
      have hxl2 := o2.lt
      have ht2 := HTAB.out.hold g2'
      obtain ⟨B2, d2, hrow2, _, _, _⟩ := ht2.row hj
      have a0 : w2.cell? ⟨g, j * 5, none⟩ = some (.int .i64 T.labels[j].id) := ht2.own.cell0 hrow2 rfl
      have a1 : w2.cell? ⟨g, j * 5 + 1, none⟩ = some (.int .i64 T.labels[j].unit) := ht2.own.cell hrow2 (i := 1) rfl
      have a2 : w2.cell? ⟨g, j * 5 + 2, none⟩ = some (.string T.labels[j].name) := ht2.own.cell hrow2 (i := 2) rfl
      have a3 : w2.cell? ⟨g, j * 5 + 3, none⟩ = some (.string T.labels[j].note) := ht2.own.cell hrow2 (i := 3) rfl
      have a4 : w2.cell? ⟨g, j * 5 + 4, none⟩ = some (.slice B2 T.labels[j].ext.length d2) := ht2.own.cell hrow2 (i := 4) rfl
      have af0 := ht2.own.frozen (j * 5)
      have af1 := ht2.own.frozen (j * 5 + 1)
      have af2 := ht2.own.frozen (j * 5 + 2)
      have af3 := ht2.own.frozen (j * 5 + 3)
      have af4 := ht2.own.frozen (j * 5 + 4)
      have HT3 := Lib.hid (ht2.set5 hj ⟨none, 0, labZ⟩ (LabAt.zero _) (fun h0 => absurd h0 (by decide)))
      have HTU3 := Lib.hid ((g2'.turned (fun x => x = g)).trans (set5_turned w2 g (j * 5) (.int .i64 0) (.int .i64 0) (.string ⟨#[]⟩) (.string ⟨#[]⟩) (.slice none 0 0)))
      have HB2 := Lib.hid (HBN.out.grew g2')
      clear ht2 hrow2 o2
      go_wp2_with fail
      obtain ⟨W, hW⟩ : ∃ W, W = ((((w2.setCell ⟨g, j * 5, none⟩ (.int .i64 0)).setCell ⟨g, j * 5 + 1, none⟩ (.int .i64 0)).setCell ⟨g, j * 5 + 2, none⟩ (.string ⟨#[]⟩)).setCell ⟨g, j * 5 + 3, none⟩ (.string ⟨#[]⟩)).setCell ⟨g, j * 5 + 4, none⟩ (.slice none 0 0) := ⟨_, rfl⟩
      rw [← hW]
      obtain ⟨ys3, HT3'⟩ : ∃ ys3, TabO W base (.slice (some ⟨g, 0, none⟩) T.labels.length cap) ys3 (T.labels.set j labZ) := ⟨_, by rw [hW]; exact HT3.out⟩
      have HTW : Turned (fun x => x = g) w1 W := by rw [hW]; exact HTU3.out
      have HBW : Blk W gn 9 #[.string note] := HBN.out.turned HTW hgng
      have hk' : k < (T.labels.set j labZ).length := by simpa using hk
      have hk2 : (T.labels.set j labZ)[k]'hk' = T.labels[k] := by first | exact HLK.out | rfl
      have ht3 := HT3'
      have z0 : W.cell? ⟨g, k * 5, none⟩ = some (.int .i64 T.labels[k].id) := by rw [← hk2]; exact ht3.row0 hk'
      have z1 : W.cell? ⟨g, k * 5 + 1, none⟩ = some (.int .i64 T.labels[k].unit) := by rw [← hk2]; exact ht3.row1 hk'
      have zf1 := ht3.own.frozen (k * 5 + 1)
      have hg3 := ht3.own.block_lt.2
      obtain ⟨ys4, ht4⟩ := ht3.drew.unit_ hk' 0 (by omega)
      have hk4 : k < ((T.labels.set j labZ).set k { (T.labels.set j labZ)[k]'hk' with unit := 0 }).length := by simpa using hk
      have hk5 : ((T.labels.set j labZ).set k { (T.labels.set j labZ)[k]'hk' with unit := 0 })[k]'hk4 = { T.labels[k] with unit := 0 } := by rw [List.getElem_set_self, hk2]
      have HZ0 := Lib.hid (show (World.setCell W.drew ⟨g, k * 5 + 1, none⟩ (.int .i64 0)).cell? ⟨g, k * 5, none⟩ = some (.int .i64 T.labels[k].id) from by have := ht4.row0 hk4; rwa [hk5] at this)
      have z3 : (World.setCell W.drew ⟨g, k * 5 + 1, none⟩ (.int .i64 0)).cell? ⟨g, k * 5 + 3, none⟩ = some (.string T.labels[k].note) := by have := ht4.row3 hk4; rwa [hk5] at this
      have y3 : W.cell? ⟨g, k * 5 + 3, none⟩ = some (.string T.labels[k].note) := by rw [← hk2]; exact ht3.row3 hk'
      have zf3 := ht3.own.frozen (k * 5 + 3)
      obtain ⟨ys5, ht5⟩ := ht4.note_ hk4 note hns
      have HT5 := Lib.hid (show ∃ ys, TabO _ base (.slice (some ⟨g, 0, none⟩) T.labels.length cap) ys ((T.labels.set j labZ).set k { T.labels[k] with unit := 0, note := note }) from ⟨ys5, by rw [hk5, List.set_set] at ht5; exact ht5⟩)
      have HTU := Lib.hid (((HTW).drew.trans (set_turned _ g (k * 5 + 1) (.int .i64 0))).trans (set_turned _ g (k * 5 + 3) (.string note)))
      have HB3 := Lib.hid (HBW)
      have hgn3 := HB3.out.lt
      have b3 := HB3.out.cell 0
      clear ht3 ht4 ht5 hk5
      clear a0 a1 a2 a3 a4 af0 af1 af2 af3 af4 hW HT3' HTW HBW u0 u1 u2 y0 y1 n0 r0 HT3 HTU3 HB2
      refine wp_region_R [8] (fun w' : World => w'.cell? ⟨gn, 0, none⟩ = some (.string note) ∧ w'.cell? ⟨g, k * 5, none⟩ = some (.int .i64 T.labels[k].id)) (by kernel_rfl) ?_
      have hS : (fun w' : World => w'.cell? ⟨gn, 0, none⟩ = some (.string note) ∧ w'.cell? ⟨g, k * 5, none⟩ = some (.int .i64 T.labels[k].id)) (World.drew _) := ⟨HB3.out.drew.cell 0, z0⟩
      refine wpAnyR_takeQ (i := 0) (v := ?_) (some 32) rfl rfl (by kernel_rfl) (by kernel_rfl) (by kernel_rfl) (by kernel_rfl) (fun _ _ _ h => h) (Or.inl ⟨by rfl, ?_⟩) ?_
      rotate_left
      focus (intro wS hSw; (try dsimp only at hSw); go_simp; (try with_reducible rfl); (try (first | (rw [if_pos (by omega)]; (try go_simp); (try with_reducible rfl)) | (rw [if_neg (by omega)]; (try go_simp); (try with_reducible rfl)))))
      try simp only [Act.put, zA, zB, zC]
      refine wpAnyR_takeQ (i := 1) (v := ?_) (some 33) rfl rfl (by kernel_rfl) (by kernel_rfl) (by kernel_rfl) (by kernel_rfl) (fun _ _ _ h => h) (Or.inl ⟨by rfl, ?_⟩) ?_
      rotate_left
      focus (intro wS hSw; (try dsimp only at hSw); go_simp; (try with_reducible rfl); (try (first | (rw [if_pos (by omega)]; (try go_simp); (try with_reducible rfl)) | (rw [if_neg (by omega)]; (try go_simp); (try with_reducible rfl)))))
      try simp only [Act.put, zA, zB, zC]
      refine wpAnyR_take (i := 2) (v := ?_) [6, 7, 8] (some 34) rfl rfl (by kernel_rfl) (by kernel_rfl) (by kernel_rfl) (by kernel_rfl) (by kernel_rfl) (by kernel_rfl) (by kernel_rfl) (fun _ _ _ h => h) (Or.inl ⟨by rfl, ?_⟩) hS ?_
      rotate_left
      focus (intro wS hSw; (try dsimp only at hSw); go_simp; (try with_reducible rfl); (try (first | (rw [if_pos (by omega)]; (try go_simp); (try with_reducible rfl)) | (rw [if_neg (by omega)]; (try go_simp); (try with_reducible rfl)))))
      try simp only [Act.put, zA, zB, zC]
      refine wpAnyR_take (i := 3) (v := ?_) [4, 5, 6, 7, 8] (some 35) rfl rfl (by kernel_rfl) (by kernel_rfl) (by kernel_rfl) (by kernel_rfl) (by kernel_rfl) (by kernel_rfl) (by kernel_rfl) (fun _ _ _ h => h) (Or.inl ⟨by rfl, ?_⟩) hS ?_
      rotate_left
      focus (intro wS hSw; (try dsimp only at hSw); go_simp; (try with_reducible rfl); (try (first | (rw [if_pos (by omega)]; (try go_simp); (try with_reducible rfl)) | (rw [if_neg (by omega)]; (try go_simp); (try with_reducible rfl)))))
      try simp only [Act.put, zA, zB, zC]
      refine wpAnyR_takeQ (i := 4) (v := ?_) (some 36) rfl rfl (by kernel_rfl) (by kernel_rfl) (by kernel_rfl) (by kernel_rfl) (fun _ _ _ h => h) (Or.inl ⟨by rfl, ?_⟩) ?_
      rotate_left
      focus (intro wS hSw; (try dsimp only at hSw); go_simp; (try with_reducible rfl); (try (first | (rw [if_pos (by omega)]; (try go_simp); (try with_reducible rfl)) | (rw [if_neg (by omega)]; (try go_simp); (try with_reducible rfl)))))
      try simp only [Act.put, zA, zB, zC]
      refine wpAnyR_n1 (i := 5) rfl (by kernel_rfl) ?_
      intro K' hK
      rw [if_pos (by rfl)]
      simp only [List.getElem_toArray, List.getElem_cons_succ, List.getElem_cons_zero]
      go_wp2_with fail
      refine hK.out _ _ (.inr (fun h => ⟨(HB3.out.drew.far (p := ⟨g, k * 5 + 1, none⟩) hgng (.int .i64 0)).cell 0, HZ0.out⟩)) ?_
      clear hK hS
      have hS : (fun w' : World => w'.cell? ⟨gn, 0, none⟩ = some (.string note) ∧ w'.cell? ⟨g, k * 5, none⟩ = some (.int .i64 T.labels[k].id)) (W.setCell ⟨g, k * 5 + 1, none⟩ (.int .i64 0)).drew := ⟨(HB3.out.drew.far (p := ⟨g, k * 5 + 1, none⟩) hgng (.int .i64 0)).cell 0, HZ0.out⟩
      refine wpAnyR_take (i := 6) (v := ?_) [7, 8] (some 37) rfl rfl (by kernel_rfl) (by kernel_rfl) (by kernel_rfl) (by kernel_rfl) (by kernel_rfl) (by kernel_rfl) (by kernel_rfl) (fun _ _ _ h => h) (Or.inl ⟨by rfl, ?_⟩) hS ?_
      rotate_left
      focus (intro wS hSw; (try dsimp only at hSw); go_simp; (try with_reducible rfl); (try (first | (rw [if_pos (by omega)]; (try go_simp); (try with_reducible rfl)) | (rw [if_neg (by omega)]; (try go_simp); (try with_reducible rfl)))))
      try simp only [Act.put, zA, zB, zC]
      refine wpAnyR_takeQ (i := 7) (v := ?_) (some 38) rfl rfl (by kernel_rfl) (by kernel_rfl) (by kernel_rfl) (by kernel_rfl) (fun _ _ _ h => h) (Or.inl ⟨by rfl, ?_⟩) ?_
      rotate_left
      focus (intro wS hSw; (try dsimp only at hSw); go_simp; (try with_reducible rfl); (try (first | (rw [if_pos (by omega)]; (try go_simp); (try with_reducible rfl)) | (rw [if_neg (by omega)]; (try go_simp); (try with_reducible rfl)))))
      try simp only [Act.put, zA, zB, zC]
      refine wpAnyR_n1 (i := 8) rfl (by kernel_rfl) ?_
      intro K' hK
      rw [if_pos (by rfl)]
      simp only [List.getElem_toArray, List.getElem_cons_succ, List.getElem_cons_zero]
      go_wp2_with fail
      refine hK.out _ _ (.inl rfl) ?_
      clear hK
      refine wpAnyR_done (by kernel_rfl) ?_ _
      go_wp2_with fail
      go_ret
      rw [HE.out]
      exact ⟨rfl, HT5.out, HTU.out⟩
    · have hij : ix = -1 := hix.symm.trans hj1
      subst hij
      have HE := Lib.hid (HC.out.trans (by rw [if_neg hu', if_neg hn, if_neg (by rw [hix]; omega)]))
      have HLK := Lib.hid (show (T.labels)[k]'(by simpa using hk) = T.labels[k] from rfl)
      clear hix hTA hj1 hxs hu'
      go_enter Tryz.func91, Tryz.ntmps91
      go_wp2_with fail
      refine wp_region_R [] (fun w' : World => w'.cell? ⟨xo, 0, none⟩ = some (.string T.name) ∧ w'.cell? ⟨xo, 1, none⟩ = some (.int .i64 T.tracks) ∧ w'.cell? ⟨xo, 2, none⟩ = some (.slice (some ⟨g, 0, none⟩) T.labels.length cap) ∧ w'.cell? ⟨gr, 0, none⟩ = some (.int .i64 id)) (by kernel_rfl) ?_
      refine wpAnyR_takeQ (i := 0) (v := ?_) (some 16) rfl rfl (by kernel_rfl) (by kernel_rfl) (by kernel_rfl) (by kernel_rfl) (fun _ _ _ h => h) (Or.inl ⟨by rfl, ?_⟩) ?_
      rotate_left
      focus (intro wS hSw; (try dsimp only at hSw); go_simp; (try with_reducible rfl); (try (first | (rw [if_pos (by omega)]; (try go_simp); (try with_reducible rfl)) | (rw [if_neg (by omega)]; (try go_simp); (try with_reducible rfl)))))
      try simp only [Act.put, zA, zB, zC]
      refine wpAnyR_take (i := 1) (v := ?_) [2, 6, 7] (some 17) rfl rfl (by kernel_rfl) (by kernel_rfl) (by kernel_rfl) (by kernel_rfl) (by kernel_rfl) (by kernel_rfl) (by kernel_rfl) (fun _ _ _ h => h) (Or.inl ⟨by rfl, ?_⟩) hS ?_
      rotate_left
      focus (intro wS hSw; (try dsimp only at hSw); go_simp; (try with_reducible rfl); (try (first | (rw [if_pos (by omega)]; (try go_simp); (try with_reducible rfl)) | (rw [if_neg (by omega)]; (try go_simp); (try with_reducible rfl)))))
      try simp only [Act.put, zA, zB, zC]
      refine wpAnyR_take (i := 2) (v := ?_) [6, 7] (some 18) rfl rfl (by kernel_rfl) (by kernel_rfl) (by kernel_rfl) (by kernel_rfl) (by kernel_rfl) (by kernel_rfl) (by kernel_rfl) (fun _ _ _ h => h) (Or.inl ⟨by rfl, ?_⟩) hS ?_
      rotate_left
      focus (intro wS hSw; (try dsimp only at hSw); go_simp; (try with_reducible rfl); (try (first | (rw [if_pos (by omega)]; (try go_simp); (try with_reducible rfl)) | (rw [if_neg (by omega)]; (try go_simp); (try with_reducible rfl)))))
      try simp only [Act.put, zA, zB, zC]
      refine wpAnyR_takeQ (i := 3) (v := ?_) (some 19) rfl rfl (by kernel_rfl) (by kernel_rfl) (by kernel_rfl) (by kernel_rfl) (fun _ _ _ h => h) (Or.inl ⟨by rfl, ?_⟩) ?_
      rotate_left
      focus (intro wS hSw; (try dsimp only at hSw); go_simp; (try with_reducible rfl); (try (first | (rw [if_pos (by omega)]; (try go_simp); (try with_reducible rfl)) | (rw [if_neg (by omega)]; (try go_simp); (try with_reducible rfl)))))
      try simp only [Act.put, zA, zB, zC]
      refine wpAnyR_take (i := 4) (v := ?_) [5, 6, 7] (some 20) rfl rfl (by kernel_rfl) (by kernel_rfl) (by kernel_rfl) (by kernel_rfl) (by kernel_rfl) (by kernel_rfl) (by kernel_rfl) (fun _ _ _ h => h) (Or.inl ⟨by rfl, ?_⟩) hS ?_
      rotate_left
      focus (intro wS hSw; (try dsimp only at hSw); go_simp; (try with_reducible rfl); (try (first | (rw [if_pos (by omega)]; (try go_simp); (try with_reducible rfl)) | (rw [if_neg (by omega)]; (try go_simp); (try with_reducible rfl)))))
      try simp only [Act.put, zA, zB, zC]
      refine wpAnyR_takeQ (i := 5) (v := ?_) (some 21) rfl rfl (by kernel_rfl) (by kernel_rfl) (by kernel_rfl) (by kernel_rfl) (fun _ _ _ h => h) (Or.inl ⟨by rfl, ?_⟩) ?_
      rotate_left
      focus (intro wS hSw; (try dsimp only at hSw); go_simp; (try with_reducible rfl); (try (first | (rw [if_pos (by omega)]; (try go_simp); (try with_reducible rfl)) | (rw [if_neg (by omega)]; (try go_simp); (try with_reducible rfl)))))
      try simp only [Act.put, zA, zB, zC]
      refine wpAnyR_n1 (i := 6) rfl (by kernel_rfl) ?_
      intro K' hK
      rw [if_pos (by rfl)]
      simp only [List.getElem_toArray, List.getElem_cons_succ, List.getElem_cons_zero]
      go_wp2_with fail
      refine (HIX.out _ (Grew.refl w1).drew).mono ?_
      rintro e W ⟨rfl, g2⟩
      have g2' : Grew w1 W := (Grew.refl w1).drew.trans g2
      go_wp2_with fail
      refine hK.out _ _ (.inr (fun h => by
        simp only [g2'.cellEq _ _ hxo, g2'.cellEq _ _ hgr]
        exact hS)) ?_
      clear hK hS
      refine wpAnyR_takeQ (i := 7) (v := ?_) (some 7) rfl rfl (by kernel_rfl) (by kernel_rfl) (by kernel_rfl) (by kernel_rfl) (fun _ _ _ h => h) (Or.inl ⟨by rfl, ?_⟩) ?_
      rotate_left
      focus (intro wS hSw; (try dsimp only at hSw); go_simp; (try with_reducible rfl); (try (first | (rw [if_pos (by omega)]; (try go_simp); (try with_reducible rfl)) | (rw [if_neg (by omega)]; (try go_simp); (try with_reducible rfl)))))
      try simp only [Act.put, zA, zB, zC]
      refine wpAnyR_done (by kernel_rfl) ?_ _
      have hk' : k < (T.labels).length := by simpa using hk
      have hk2 : (T.labels)[k]'hk' = T.labels[k] := by first | exact HLK.out | rfl
      have ht3 := HTAB.out.hold g2'
      have z0 : W.cell? ⟨g, k * 5, none⟩ = some (.int .i64 T.labels[k].id) := by rw [← hk2]; exact ht3.row0 hk'
      have z1 : W.cell? ⟨g, k * 5 + 1, none⟩ = some (.int .i64 T.labels[k].unit) := by rw [← hk2]; exact ht3.row1 hk'
      have zf1 := ht3.own.frozen (k * 5 + 1)
      have hg3 := ht3.own.block_lt.2
      obtain ⟨ys4, ht4⟩ := ht3.drew.unit_ hk' 0 (by omega)
      have hk4 : k < ((T.labels).set k { (T.labels)[k]'hk' with unit := 0 }).length := by simpa using hk
      have hk5 : ((T.labels).set k { (T.labels)[k]'hk' with unit := 0 })[k]'hk4 = { T.labels[k] with unit := 0 } := by rw [List.getElem_set_self, hk2]
      have HZ0 := Lib.hid (show (World.setCell W.drew ⟨g, k * 5 + 1, none⟩ (.int .i64 0)).cell? ⟨g, k * 5, none⟩ = some (.int .i64 T.labels[k].id) from by have := ht4.row0 hk4; rwa [hk5] at this)
      have z3 : (World.setCell W.drew ⟨g, k * 5 + 1, none⟩ (.int .i64 0)).cell? ⟨g, k * 5 + 3, none⟩ = some (.string T.labels[k].note) := by have := ht4.row3 hk4; rwa [hk5] at this
      have y3 : W.cell? ⟨g, k * 5 + 3, none⟩ = some (.string T.labels[k].note) := by rw [← hk2]; exact ht3.row3 hk'
      have zf3 := ht3.own.frozen (k * 5 + 3)
      obtain ⟨ys5, ht5⟩ := ht4.note_ hk4 note hns
      have HT5 := Lib.hid (show ∃ ys, TabO _ base (.slice (some ⟨g, 0, none⟩) T.labels.length cap) ys ((T.labels).set k { T.labels[k] with unit := 0, note := note }) from ⟨ys5, by rw [hk5, List.set_set] at ht5; exact ht5⟩)
      have HTU := Lib.hid (((g2'.turned (fun x => x = g)).drew.trans (set_turned _ g (k * 5 + 1) (.int .i64 0))).trans (set_turned _ g (k * 5 + 3) (.string note)))
      have HB3 := Lib.hid (HBN.out.grew g2')
      have hgn3 := HB3.out.lt
      have b3 := HB3.out.cell 0
      clear ht3 ht4 ht5 hk5
      clear y0 y1 n0 r0 g2 g2'
      go_wp2_with fail
      refine wp_region_R [8] (fun w' : World => w'.cell? ⟨gn, 0, none⟩ = some (.string note) ∧ w'.cell? ⟨g, k * 5, none⟩ = some (.int .i64 T.labels[k].id)) (by kernel_rfl) ?_
      have hS : (fun w' : World => w'.cell? ⟨gn, 0, none⟩ = some (.string note) ∧ w'.cell? ⟨g, k * 5, none⟩ = some (.int .i64 T.labels[k].id)) (World.drew _) := ⟨HB3.out.drew.cell 0, z0⟩
      refine wpAnyR_takeQ (i := 0) (v := ?_) (some 32) rfl rfl (by kernel_rfl) (by kernel_rfl) (by kernel_rfl) (by kernel_rfl) (fun _ _ _ h => h) (Or.inl ⟨by rfl, ?_⟩) ?_
      rotate_left
      focus (intro wS hSw; (try dsimp only at hSw); go_simp; (try with_reducible rfl); (try (first | (rw [if_pos (by omega)]; (try go_simp); (try with_reducible rfl)) | (rw [if_neg (by omega)]; (try go_simp); (try with_reducible rfl)))))
      try simp only [Act.put, zA, zB, zC]
      refine wpAnyR_takeQ (i := 1) (v := ?_) (some 33) rfl rfl (by kernel_rfl) (by kernel_rfl) (by kernel_rfl) (by kernel_rfl) (fun _ _ _ h => h) (Or.inl ⟨by rfl, ?_⟩) ?_
      rotate_left
      focus (intro wS hSw; (try dsimp only at hSw); go_simp; (try with_reducible rfl); (try (first | (rw [if_pos (by omega)]; (try go_simp); (try with_reducible rfl)) | (rw [if_neg (by omega)]; (try go_simp); (try with_reducible rfl)))))
      try simp only [Act.put, zA, zB, zC]
      refine wpAnyR_take (i := 2) (v := ?_) [6, 7, 8] (some 34) rfl rfl (by kernel_rfl) (by kernel_rfl) (by kernel_rfl) (by kernel_rfl) (by kernel_rfl) (by kernel_rfl) (by kernel_rfl) (fun _ _ _ h => h) (Or.inl ⟨by rfl, ?_⟩) hS ?_
      rotate_left
      focus (intro wS hSw; (try dsimp only at hSw); go_simp; (try with_reducible rfl); (try (first | (rw [if_pos (by omega)]; (try go_simp); (try with_reducible rfl)) | (rw [if_neg (by omega)]; (try go_simp); (try with_reducible rfl)))))
      try simp only [Act.put, zA, zB, zC]
      refine wpAnyR_take (i := 3) (v := ?_) [4, 5, 6, 7, 8] (some 35) rfl rfl (by kernel_rfl) (by kernel_rfl) (by kernel_rfl) (by kernel_rfl) (by kernel_rfl) (by kernel_rfl) (by kernel_rfl) (fun _ _ _ h => h) (Or.inl ⟨by rfl, ?_⟩) hS ?_
      rotate_left
      focus (intro wS hSw; (try dsimp only at hSw); go_simp; (try with_reducible rfl); (try (first | (rw [if_pos (by omega)]; (try go_simp); (try with_reducible rfl)) | (rw [if_neg (by omega)]; (try go_simp); (try with_reducible rfl)))))
      try simp only [Act.put, zA, zB, zC]
      refine wpAnyR_takeQ (i := 4) (v := ?_) (some 36) rfl rfl (by kernel_rfl) (by kernel_rfl) (by kernel_rfl) (by kernel_rfl) (fun _ _ _ h => h) (Or.inl ⟨by rfl, ?_⟩) ?_
      rotate_left
      focus (intro wS hSw; (try dsimp only at hSw); go_simp; (try with_reducible rfl); (try (first | (rw [if_pos (by omega)]; (try go_simp); (try with_reducible rfl)) | (rw [if_neg (by omega)]; (try go_simp); (try with_reducible rfl)))))
      try simp only [Act.put, zA, zB, zC]
      refine wpAnyR_n1 (i := 5) rfl (by kernel_rfl) ?_
      intro K' hK
      rw [if_pos (by rfl)]
      simp only [List.getElem_toArray, List.getElem_cons_succ, List.getElem_cons_zero]
      go_wp2_with fail
      refine hK.out _ _ (.inr (fun h => ⟨(HB3.out.drew.far (p := ⟨g, k * 5 + 1, none⟩) hgng (.int .i64 0)).cell 0, HZ0.out⟩)) ?_
      clear hK hS
      have hS : (fun w' : World => w'.cell? ⟨gn, 0, none⟩ = some (.string note) ∧ w'.cell? ⟨g, k * 5, none⟩ = some (.int .i64 T.labels[k].id)) (W.setCell ⟨g, k * 5 + 1, none⟩ (.int .i64 0)).drew := ⟨(HB3.out.drew.far (p := ⟨g, k * 5 + 1, none⟩) hgng (.int .i64 0)).cell 0, HZ0.out⟩
      refine wpAnyR_take (i := 6) (v := ?_) [7, 8] (some 37) rfl rfl (by kernel_rfl) (by kernel_rfl) (by kernel_rfl) (by kernel_rfl) (by kernel_rfl) (by kernel_rfl) (by kernel_rfl) (fun _ _ _ h => h) (Or.inl ⟨by rfl, ?_⟩) hS ?_
      rotate_left
      focus (intro wS hSw; (try dsimp only at hSw); go_simp; (try with_reducible rfl); (try (first | (rw [if_pos (by omega)]; (try go_simp); (try with_reducible rfl)) | (rw [if_neg (by omega)]; (try go_simp); (try with_reducible rfl)))))
      try simp only [Act.put, zA, zB, zC]
      refine wpAnyR_takeQ (i := 7) (v := ?_) (some 38) rfl rfl (by kernel_rfl) (by kernel_rfl) (by kernel_rfl) (by kernel_rfl) (fun _ _ _ h => h) (Or.inl ⟨by rfl, ?_⟩) ?_
      rotate_left
      focus (intro wS hSw; (try dsimp only at hSw); go_simp; (try with_reducible rfl); (try (first | (rw [if_pos (by omega)]; (try go_simp); (try with_reducible rfl)) | (rw [if_neg (by omega)]; (try go_simp); (try with_reducible rfl)))))
      try simp only [Act.put, zA, zB, zC]
      refine wpAnyR_n1 (i := 8) rfl (by kernel_rfl) ?_
      intro K' hK
      rw [if_pos (by rfl)]
      simp only [List.getElem_toArray, List.getElem_cons_succ, List.getElem_cons_zero]
      go_wp2_with fail
      refine hK.out _ _ (.inl rfl) ?_
      clear hK
      refine wpAnyR_done (by kernel_rfl) ?_ _
      go_wp2_with fail
      go_ret
      rw [HE.out]
      exact ⟨rfl, HT5.out, HTU.out⟩
end
end Go.Proofs.YtnlaogneceanoaaGreat
namespace Go.Proofs.YtnlaogneceanoaaGreat
set_option linter.unusedVariables false
set_option linter.unusedSimpArgs false
set_option linter.unusedSectionVars false
open Go.RowKit
theorem OwnL.len {w : World} {base e sz g n cap : Nat} {rows : List (List Value)} (h : OwnL w base e sz (.slice (some ⟨g, 0, none⟩) n cap) rows) : rows.length = n ∧ n ≤ cap ∧ cap ≤ 9223372036854775807 := by
  rcases h.2.2 with ⟨h0, _⟩ | ⟨g', cap', cur, hv, _, _, hn, hm, _⟩
  · cases h0
  · injection hv with _ h1 h2
    unfold maxLen at hm
    exact ⟨h1.symm, by rw [h1, h2]; exact hn, by rw [h2]; simpa using hm⟩
theorem OwnL.block {w : World} {base e sz g n cap : Nat} {rows : List (List Value)} (h : OwnL w base e sz (.slice (some ⟨g, 0, none⟩) n cap) rows) :
    ∃ cur, base ≤ g ∧ w.heap[g]? = some (.cells cur e (0, 0)) ∧ cur.size = cap * sz ∧ cur.toList.take (n * sz) = rows.flatten := by
  have hlen := h.len.1
  rcases h.2.2 with ⟨h0, _⟩ | ⟨g', cap', cur, hv, hb, hh, hn, hm, hs, ht⟩
  · cases h0
  · injection hv with h0 h1 h2
    injection h0 with h0
    injection h0 with h0 _ _
    subst h0
    rw [hlen] at ht
    exact ⟨cur, hb, hh, by rw [hs, h2], ht⟩
section
variable {P : Program}
end
end Go.Proofs.YtnlaogneceanoaaGreat
namespace Go.Proofs.YtnlaogneceanoaaGreat
set_option linter.unusedVariables false
set_option linter.unusedSimpArgs false
set_option linter.unusedSectionVars false
open Go.RowKit
attribute [local go_sem ↓] Go.wp_at_zero Go.wp_at_succ
theorem runs_ne_tab {w : World} {A : Option Addr} {l : List (Int × Int)} {g : Nat} {t : TypeId} {s : ByteArray} {i : Int} {a : Option Addr} {n c : Nat} (h : RunsAt w w.heap.size A l) (hl : 0 < l.length) (hb : Blk w g t #[.string s, .int .i64 i, .slice a n c]) : ∀ b off, A = some ⟨b, off, none⟩ → b ≠ g := by
  rintro b off e rfl
  obtain ⟨b', off', x, y, e', hb', hv, _, c0, c1⟩ := h.at_ (k := 0) hl
  rw [e] at e'
  injection e' with e'
  injection e' with e1 e2 _
  subst e1; subst e2
  rw [Nat.zero_mul, Nat.add_zero] at c0 c1
  rw [hb.cell] at c0 c1
  match off with
  | 0 => simp at c0
  | 1 => simp at c1
  | 2 => simp at c0
  | off + 3 => simp at c0
theorem TabO.apart {w : World} {base : Nat} {v : Value} {ys : List LabE} {ls : List Lab} (h : TabO w base v ys ls) {g : Nat} {t : TypeId} {s : ByteArray} {i : Int} {a : Option Addr} {n c : Nat} (hb : Blk w g t #[.string s, .int .i64 i, .slice a n c]) : ∀ y ∈ ys, 0 < y.l.ext.length → ∀ b off, y.A = some ⟨b, off, none⟩ → ¬ b = g :=
  fun y hy h0 b off e => runs_ne_tab (h.lab y hy).runs h0 hb b off e
theorem TabO.nlen {w : World} {base g n cap : Nat} {ys : List LabE} {ls : List Lab} (h : TabO w base (.slice (some ⟨g, 0, none⟩) n cap) ys ls) : ls.length = n := by
  have h1 := h.own.len.1
  rw [List.length_map, h.len] at h1
  exact h1
theorem chgT_cases (T : Tab) (id unit : Int) (F : Nat → Lab → List Lab × Int) : (validT T = false ∧ chgT T id unit F = (tabZ, 1)) ∨ (validT T = true ∧ idxT T id unit = -1 ∧ chgT T id unit F = (tabZ, 6)) ∨
    (validT T = true ∧ ∃ (k : Nat) (hk : k < T.labels.length), idxT T id unit = (k : Int) ∧ hitL id unit T.labels[k] = true ∧ (((F k T.labels[k]).2 = 0 ∧ chgT T id unit F = ({ T with labels := (F k T.labels[k]).1 }, 0)) ∨ ((F k T.labels[k]).2 ≠ 0 ∧ chgT T id unit F = (tabZ, (F k T.labels[k]).2)))) := by
  unfold chgT
  cases hv : validT T with
  | false => exact .inl ⟨rfl, if_neg (by simp)⟩
  | true =>
    right
    rw [if_pos rfl]
    rcases idxP_cases (hitL id unit) T.labels with ⟨k, hk, h1, h2, _⟩ | ⟨h1, _⟩
    · have h1' : idxT T id unit = (k : Int) := h1
      right
      rw [h1', if_pos (by omega), Int.toNat_natCast, List.getD_eq_getElem?_getD, List.getElem?_eq_getElem hk, Option.getD_some]
      refine ⟨rfl, k, hk, rfl, h2, ?_⟩
      by_cases h0 : (F k T.labels[k]).2 = 0
      · exact .inl ⟨h0, by rw [if_pos h0]⟩
      · exact .inr ⟨h0, by rw [if_neg h0]⟩
    · have h1' : idxT T id unit = -1 := h1
      left
      rw [h1', if_neg (by omega)]
      exact ⟨rfl, rfl, rfl⟩
/-- A table and an error, returned. -/
def TabR (w : World) (T : Tab) (er : Int) (e : Ending) (w' : World) : Prop :=
  ∃ A c xs, e = .returned (.tuple #[.agg #[.string T.name, .int .i64 T.tracks, .slice A T.labels.length c], .int .i64 er]) ∧ TabAt w' A c xs T ∧ Grew w w'
section
variable (A : Option Addr) (c : Nat) (xs : List LabE) (T : Tab) (id unit : Int) (w : World) (p1 p2 : Nat)
set_option maxRecDepth 100000 in
set_option maxHeartbeats 8000000 in
theorem change_con (h : TabAt w A c xs T) (hs : SmallT T) (F : Nat → Lab → List Lab × Int)
    (HC : ∀ (w1 : World) (base g cap xo : Nat) (ys : List LabE) (k : Nat) (hk : k < T.labels.length), hitL id unit T.labels[k] = true → OutAt w w1 base g cap xo ys T → Calls Tryz.prog 91 #[.pointer (some ⟨g, k * 5, none⟩), .pointer (some ⟨xo, 0, none⟩), .pointer (some ⟨p1, 0, none⟩), .pointer (some ⟨p2, 0, none⟩)] w1 (ChgR w1 base g cap T.labels.length (F k T.labels[k])))
    (T' : Tab) (er : Int) (hr : chgT T id unit F = (T', er)) :
    Calls Tryz.prog 90 #[.agg #[.string T.name, .int .i64 T.tracks, .slice A T.labels.length c], .agg #[.int .i64 id, .int .i64 unit], .func (.func 91) #[] #[.pointer (some ⟨p1, 0, none⟩), .pointer (some ⟨p2, 0, none⟩)]] w (TabR w T' er) := by
  have hg0 := (((Grew.refl w).alloc (.cells #[.string T.name, .int .i64 T.tracks, .slice A T.labels.length c] 24)).alloc (.cells #[.int .i64 id, .int .i64 unit] 26)).alloc (.cells #[.string ⟨#[]⟩, .int .i64 0, .slice none 0 0] 24)
  have hb0 := ((Blk.new w 24 #[.string T.name, .int .i64 T.tracks, .slice A T.labels.length c] rfl).alloc (.cells #[.int .i64 id, .int .i64 unit] 26)).alloc (.cells #[.string ⟨#[]⟩, .int .i64 0, .slice none 0 0] 24)
  have hrf0 := (Blk.new (w.alloc (.cells #[.string T.name, .int .i64 T.tracks, .slice A T.labels.length c] 24)) 26 #[.int .i64 id, .int .i64 unit] (n := w.heap.size + 1) (by simp)).alloc (.cells #[.string ⟨#[]⟩, .int .i64 0, .slice none 0 0] 24)
  have hz0 := Blk.new ((w.alloc (.cells #[.string T.name, .int .i64 T.tracks, .slice A T.labels.length c] 24)).alloc (.cells #[.int .i64 id, .int .i64 unit] 26)) 24 #[.string ⟨#[]⟩, .int .i64 0, .slice none 0 0] (n := w.heap.size + 1 + 1) (by simp)
  have HV := Lib.hid (valid_tab A c xs T _ (h.hold hg0) hs _ rfl)
  have HIX := Lib.hid (fun w2 (g2 : Grew w w2) k hk => cindex_any A c xs T id unit w2 (h.hold g2) hs _ rfl k hk)
  have HCL := Lib.hid (fun w2 (g2 : Grew w w2) => clone_tab A c xs T w2 (h.hold g2) hs _ rfl)
  have HNM := Lib.hid (show T.name.size ≤ 9223372036854775807 ∧ -9223372036854775808 ≤ T.tracks ∧ T.tracks ≤ 9223372036854775807 from ⟨h.name, h.tr0, h.tr1⟩)
  have HCC := Lib.hid HC
  have HG0 := Lib.hid hg0
  have HB0 := Lib.hid hb0
  have HRF := Lib.hid hrf0
  have HZ0 := Lib.hid hz0
  clear h hs HC hg0 hb0 hrf0 hz0
  rcases chgT_cases T id unit F with ⟨hv, hx⟩ | ⟨hv, hi, hx⟩ | ⟨hv, k, hk, hi, hhit, hx⟩
  · rw [hx] at hr
    injection hr with h1 h2
    subst h1; subst h2
    have HVF := Lib.hid hv
    clear hv hx
    go_enter Tryz.func90, Tryz.ntmps90
    go_wp2_with fail
    refine HV.out.mono ?_
    rintro e w1 ⟨rfl, g1⟩
    rw [HVF.out]
    have hz1 := HZ0.out.grew g1
    have z0 := hz1.cell 0
    have z1 := hz1.cell 1
    have z2 := hz1.cell 2
    have f0 := hz1.frozen 0
    have f1 := hz1.frozen 1
    have f2 := hz1.frozen 2
    have hzl := hz1.lt
    have hg1 := HG0.out.trans g1
    clear hz1 g1
    go_wp2_with fail
    refine bodyPost_ret (by first | (simp [*, results, Tryz.results90, go_sem]; rfl) | simp [*, results, Tryz.results90, go_sem]) rfl ?_
    exact ⟨none, 0, [], rfl, TabAt.zero _, by (repeat' first | (with_reducible exact Grew.refl _) | (with_reducible assumption) | (with_reducible refine Grew.alloc ?_ _) | (with_reducible refine Grew.drew ?_) | (with_reducible refine Grew.drewN ?_ _) | (with_reducible refine Grew.setRow ?_ (by first | (simp; done) | (simp; omega) | omega) _) | (with_reducible refine Grew.setCell ?_ (by first | (simp; done) | (simp; omega) | omega) _) | ((with_reducible apply Grew.trans); rotate_left; (with_reducible assumption)) | ((with_reducible apply Grew.turn); rotate_left; (with_reducible assumption); (focus (intro i hi; first | omega | (simp at hi; omega)))) | fail)⟩
  · rw [hx] at hr
    injection hr with h1 h2
    subst h1; subst h2
    have HVF := Lib.hid hv
    have HI := Lib.hid hi
    clear hv hx hi
    go_enter Tryz.func90, Tryz.ntmps90
    go_wp2_with fail
    refine HV.out.mono ?_
    rintro e w1 ⟨rfl, g1⟩
    rw [HVF.out]
    have hb1 := HB0.out.grew g1
    have b0 := hb1.cell 0
    have b1 := hb1.cell 1
    have b2 := hb1.cell 2
    have hbl := hb1.lt
    have hr1 := HRF.out.grew g1
    have r0 := hr1.cell 0
    have r1 := hr1.cell 1
    have hrl := hr1.lt
    have HG1 := Lib.hid (HG0.out.trans g1)
    have HZ1 := Lib.hid (HZ0.out.grew g1)
    clear hb1 hr1 g1
    go_wp2_with fail
    refine (HIX.out w1 HG1.out _ HI.out).mono ?_
    rintro e w2 ⟨rfl, g2⟩
    have hz1 := HZ1.out.grew g2
    have z0 := hz1.cell 0
    have z1 := hz1.cell 1
    have z2 := hz1.cell 2
    have f0 := hz1.frozen 0
    have f1 := hz1.frozen 1
    have f2 := hz1.frozen 2
    have hzl := hz1.lt
    have hg1 := HG1.out.trans g2
    clear hz1 g2 b0 b1 b2 r0 r1
    go_wp2_with fail
    refine bodyPost_ret (by first | (simp [*, results, Tryz.results90, go_sem]; rfl) | simp [*, results, Tryz.results90, go_sem]) rfl ?_
    exact ⟨none, 0, [], rfl, TabAt.zero _, by (repeat' first | (with_reducible exact Grew.refl _) | (with_reducible assumption) | (with_reducible refine Grew.alloc ?_ _) | (with_reducible refine Grew.drew ?_) | (with_reducible refine Grew.drewN ?_ _) | (with_reducible refine Grew.setRow ?_ (by first | (simp; done) | (simp; omega) | omega) _) | (with_reducible refine Grew.setCell ?_ (by first | (simp; done) | (simp; omega) | omega) _) | ((with_reducible apply Grew.trans); rotate_left; (with_reducible assumption)) | ((with_reducible apply Grew.turn); rotate_left; (with_reducible assumption); (focus (intro i hi; first | omega | (simp at hi; omega)))) | fail)⟩
  · have HVF := Lib.hid hv
    have HI := Lib.hid hi
    have HHIT := Lib.hid hhit
    obtain ⟨⟨r1, r2⟩, hF⟩ : ∃ r, F k T.labels[k] = r := ⟨_, rfl⟩
    rw [hF] at hx
    have HF := Lib.hid hF
    have hkn : (k : Int) < (T.labels.length : Int) := by omega
    clear hv hi hhit hF
    go_enter Tryz.func90, Tryz.ntmps90
    go_wp2_with fail
    refine HV.out.mono ?_
    rintro e w1 ⟨rfl, g1⟩
    rw [HVF.out]
    have hb1 := HB0.out.grew g1
    have b0 := hb1.cell 0
    have b1 := hb1.cell 1
    have b2 := hb1.cell 2
    have hbl := hb1.lt
    have hrr1 := HRF.out.grew g1
    have rr0 := hrr1.cell 0
    have rr1 := hrr1.cell 1
    have hrl := hrr1.lt
    have HG1 := Lib.hid (HG0.out.trans g1)
    have HZ1 := Lib.hid (HZ0.out.grew g1)
    have HB1 := Lib.hid hb1
    clear hb1 hrr1 g1
    go_wp2_with fail
    refine (HIX.out w1 HG1.out _ HI.out).mono ?_
    rintro e w2 ⟨rfl, g2⟩
    have hb2 := HB1.out.grew g2
    clear b0 b1 b2 rr0 rr1
    have b0 := hb2.cell 0
    have b1 := hb2.cell 1
    have b2 := hb2.cell 2
    have hbl2 := hb2.lt
    have HG2 := Lib.hid (HG1.out.trans g2)
    have HZ2 := Lib.hid (HZ1.out.grew g2)
    clear hb2 g2
    go_wp2_with fail
    refine (HCL.out w2 HG2.out).mono ?_
    rintro e w3 ⟨v, ys, rfl, hto, g3⟩
    obtain ⟨g, cap, rfl, hgb, hgs⟩ : ∃ g cap, v = .slice (some ⟨g, 0, none⟩) T.labels.length cap ∧ w2.heap.size ≤ g ∧ g < w3.heap.size := by
      rcases hto.own.form with ⟨_, h0⟩ | ⟨g, cap, hv, h1, h2, _⟩
      · have := congrArg List.length h0; rw [List.length_map, hto.len, List.length_nil] at this; omega
      · rw [List.length_map, hto.len] at hv; exact ⟨g, cap, hv, h1, h2⟩
    have hgx : Grew w3 (w3.alloc (.cells #[.string T.name, .int .i64 T.tracks, .slice (some ⟨g, 0, none⟩) T.labels.length cap] 24)) := (Grew.refl w3).alloc _
    have hg3 := HG2.out.trans g3
    have hz2 := HZ2.out.lt
    have hOut : OutAt w (w3.alloc (.cells #[.string T.name, .int .i64 T.tracks, .slice (some ⟨g, 0, none⟩) T.labels.length cap] 24)) w2.heap.size g cap w3.heap.size ys T :=
      ⟨hg3.trans hgx, by omega, hg3.size, by omega, hto.hold hgx, Blk.new w3 _ _ rfl⟩
    have HCA := Lib.hid (HCC.out _ _ _ _ _ _ k hk HHIT.out hOut)
    have hl1 : k < cap := by have := hto.own.len.2.1; omega
    have HZ3 := Lib.hid ((HZ2.out.grew g3).grew hgx)
    have HG3 := Lib.hid (hg3.trans hgx)
    have HOB := Lib.hid hOut.blk
    have hgne : ¬ w.heap.size + 1 + 1 = g := by omega
    have hxne : ¬ w3.heap.size = g := by omega
    have hzx : w.heap.size + 1 + 1 < w3.heap.size := Nat.lt_of_lt_of_le hz2 g3.size
    have hgw : w.heap.size ≤ g := by omega
    rw [HF.out] at HCA
    clear hto hgx hg3 hOut g3 b0 b1 b2
    go_wp2_with fail
    refine HCA.out.mono ?_
    rintro e w4 ⟨rfl, ⟨ys4, ht4⟩, tu4⟩
    have hz4 := HZ3.out.turned tu4 hgne
    have ho4 := HOB.out.turned tu4 hxne
    have z0 := hz4.cell 0
    have z1 := hz4.cell 1
    have z2 := hz4.cell 2
    have f0 := hz4.frozen 0
    have f1 := hz4.frozen 1
    have f2 := hz4.frozen 2
    have o0 := ho4.cell 0
    have o1 := ho4.cell 1
    have o2 := ho4.cell 2
    have hzl := hz4.lt
    have hol := ho4.lt
    have hg4 : Grew w w4 := HG3.out.turn tu4 (fun i e => by omega)
    have hap := ht4.apart hz4
    have HT4 := Lib.hid ht4
    have HAP := Lib.hid hap
    have HN4 := Lib.hid ht4.nlen
    clear hz4 ho4 tu4 ht4 hap HCA
    rcases hx with ⟨h0, hx⟩ | ⟨h0, hx⟩
    · try simp only at h0
      subst h0
      rw [hx] at hr
      injection hr with h1 h2
      subst h2
      have HT' := Lib.hid h1
      clear hx h1
      go_wp2_with fail
      refine bodyPost_ret (by first | (simp [*, results, Tryz.results90, go_sem]; rfl) | simp [*, results, Tryz.results90, go_sem]) rfl ?_
      refine ⟨some ⟨g, 0, none⟩, cap, ys4, by rw [← HT'.out]; simp only [HN4.out], ?_, by (repeat' first | (with_reducible exact Grew.refl _) | (with_reducible assumption) | (with_reducible refine Grew.alloc ?_ _) | (with_reducible refine Grew.drew ?_) | (with_reducible refine Grew.drewN ?_ _) | (with_reducible refine Grew.setRow ?_ (by first | (simp; done) | (simp; omega) | omega) _) | (with_reducible refine Grew.setCell ?_ (by first | (simp; done) | (simp; omega) | omega) _) | ((with_reducible apply Grew.trans); rotate_left; (with_reducible assumption)) | ((with_reducible apply Grew.turn); rotate_left; (with_reducible assumption); (focus (intro i hi; first | omega | (simp at hi; omega)))) | fail)⟩
      rw [← HT'.out]
      exact (HT4.out.turned (S := fun k => k = w.heap.size + 1 + 1) (by (repeat' first | (with_reducible exact Turned.refl _ _) | (with_reducible assumption) | (with_reducible refine Turned.alloc ?_ _) | (with_reducible refine Turned.drew ?_) | (with_reducible refine Turned.drewN ?_ _) | (with_reducible refine Turned.setRow ?_ (by first | (simp; done) | (simp; omega) | omega) _) | (with_reducible refine Turned.setCell ?_ (by first | (simp; done) | (simp; omega) | omega) _) | ((with_reducible apply Turned.andGrew); rotate_left; (with_reducible assumption)) | ((with_reducible apply Turned.trans); rotate_left; (with_reducible assumption)) | fail)) (fun g' e => by have e' : g = g' := Option.some.inj e; omega) (fun y hy h0 b off e => HAP.out y hy h0 b off e)).tabAt _ _ HNM.out.1 HNM.out.2.1 HNM.out.2.2
    · try simp only at h0 hx
      rw [hx] at hr
      injection hr with h1 h2
      subst h1; subst h2
      have hne : (r2 != 0) = true := by rw [bne_iff_ne]; exact h0
      clear hx h0
      go_wp2_with fail
      refine bodyPost_ret (by first | (simp [*, results, Tryz.results90, go_sem]; rfl) | simp [*, results, Tryz.results90, go_sem]) rfl ?_
      exact ⟨none, 0, [], rfl, TabAt.zero _, by (repeat' first | (with_reducible exact Grew.refl _) | (with_reducible assumption) | (with_reducible refine Grew.alloc ?_ _) | (with_reducible refine Grew.drew ?_) | (with_reducible refine Grew.drewN ?_ _) | (with_reducible refine Grew.setRow ?_ (by first | (simp; done) | (simp; omega) | omega) _) | (with_reducible refine Grew.setCell ?_ (by first | (simp; done) | (simp; omega) | omega) _) | ((with_reducible apply Grew.trans); rotate_left; (with_reducible assumption)) | ((with_reducible apply Grew.turn); rotate_left; (with_reducible assumption); (focus (intro i hi; first | omega | (simp at hi; omega)))) | fail)⟩
end
end Go.Proofs.YtnlaogneceanoaaGreat
namespace Go.Proofs.YtnlaogneceanoaaGreat
set_option linter.unusedVariables false
set_option linter.unusedSimpArgs false
set_option linter.unusedSectionVars false
open Go.RowKit
attribute [local go_sem ↓] Go.wp_at_zero Go.wp_at_succ
set_option maxRecDepth 100000 in
set_option maxHeartbeats 16000000 in
theorem load_tab (A : Option Addr) (c : Nat) (ss : List ByteArray) (w : World) (h : ListAt w w.heap.size 1 A (ss.map strC)) (hl : ss.length ≤ 100000) (hz : ∀ x ∈ ss, x.size ≤ 1000) :
    Calls Tryz.prog 26 #[.slice A ss.length c] w fun e w' => ∃ A c xs T er, e = .returned (.tuple #[.agg #[.string T.name, .int .i64 T.tracks, .slice A T.labels.length c], .int .i64 er]) ∧ LdS ss T er ∧ SmallT T ∧ TabAt w' A c xs T ∧ Grew w w' := by
  have H := Lib.hid h
  have HZ := Lib.hid hz
  have HB0 := Lib.hid (Blk.new w 24 #[.string ⟨#[]⟩, .int .i64 0, .slice none 0 0] rfl)
  have HG0 := Lib.hid ((Grew.refl w).alloc (.cells #[.string ⟨#[]⟩, .int .i64 0, .slice none 0 0] 24))
  clear h hz
  go_enter Tryz.func26, Tryz.ntmps26
  go_wp2_with fail
  go_loopg [4, 17] ss.length (fun gk tv0 i wr => ∃ (k : Nat) (tv : Value), k ≤ ss.length ∧ gk = ss.length - k ∧ tv = tv0 ∧ i = .int .i64 k ∧ (∀ x ∈ ss.take k, x.size = 128) ∧ OwnL wr (w.heap.size + 1) 9 1 tv ((trkL ss k).map strC) ∧ Blk wr w.heap.size 24 #[.string ⟨#[]⟩, .int .i64 0, .slice none 0 0] ∧ Grew w wr)
  case atStart => exact ⟨0, _, by omega, by omega, rfl, rfl, fun x hx => (by cases hx), OwnL.nil _ _ _ _, HB0.out, HG0.out⟩
  case round =>
    obtain ⟨k, tv, hk, hgk, hv0, rfl, hall, hown, hb, hg⟩ := hrel
    subst hv0
    have HGK := Lib.hid hgk
    have HALL := Lib.hid hall
    clear hgk hall
    by_cases hlt : k < ss.length
    · have hlb0 : w.heap.size + 1 ≤ wr.heap.size := hb.lt
      obtain ⟨b1, o1, rfl, hb1, hc1⟩ := H.out (by rw [List.length_map]; omega)
      obtain ⟨x, hx⟩ : ∃ x, ss[k] = x := ⟨_, rfl⟩
      have q0 : wr.cell? ⟨b1, o1 + k, none⟩ = some (.string x) := by
        rw [hg.cellEq _ _ hb1]
        have := hc1 k (strC x) (by rw [List.getElem?_map, List.getElem?_eq_getElem hlt, hx]; rfl) 0 _ rfl
        simpa using this
      have hxs : x.size ≤ 1000 := by rw [← hx]; exact HZ.out _ (List.getElem_mem hlt)
      clear hc1
      by_cases h128 : x.size = 128
      rotate_left
      · have hn : ((x.size : Int) != 128) = true := by rw [bne_iff_ne]; omega
        have HE := Lib.hid (ld_128 ss k hlt (by rw [hx]; exact h128))
        have z0 := hb.cell 0
        have z1 := hb.cell 1
        have z2 := hb.cell 2
        have f0 := hb.frozen 0
        have f1 := hb.frozen 1
        have f2 := hb.frozen 2
        have hlb := hb.lt
        have hgg := hg
        clear hb hown hx h128
        go_wp2_with fail
        refine bodyPost_ret (by first | (simp [*, results, Tryz.results26, go_sem]; rfl) | simp [*, results, Tryz.results26, go_sem]) rfl ?_
        exact ⟨none, 0, [], tabZ, 11, rfl, HE.out, small_zero, TabAt.zero _, by (repeat' first | (with_reducible exact Grew.refl _) | (with_reducible assumption) | (with_reducible refine Grew.alloc ?_ _) | (with_reducible refine Grew.drew ?_) | (with_reducible refine Grew.drewN ?_ _) | (with_reducible refine Grew.setRow ?_ (by first | (simp; done) | (simp; omega) | omega) _) | (with_reducible refine Grew.setCell ?_ (by first | (simp; done) | (simp; omega) | omega) _) | ((with_reducible apply Grew.trans); rotate_left; (with_reducible assumption)) | ((with_reducible apply Grew.turn); rotate_left; (with_reducible assumption); (focus (intro i hi; first | omega | (simp at hi; omega)))) | fail)⟩
      have hn : ((x.size : Int) != 128) = false := by rw [bne_eq_false_iff_eq]; omega
      have HN128 := Lib.hid (show ∀ z ∈ ss.take (k + 1), z.size = 128 from fun z hz => by
        rw [List.take_succ_eq_append_getElem hlt] at hz
        rcases List.mem_append.1 hz with hz | hz
        · exact HALL.out z hz
        · rw [List.mem_singleton.1 hz, hx]; exact h128)
      by_cases h8 : k % 8 = 0
      · have hm : ((k : Int) % 8 == 0) = true := by rw [beq_iff_eq]; omega
        have hY := trkY_new ss k h8
        have hll := trkL_len ss k
        have hbe := hown.ne_blk hb (by decide)
        clear h8 h128
        go_upto_region 9 with (at_builtin; refine wpList_push rfl _ _ 50 rfl (w.heap.size + 1) 9 1 16 _ Tryz.underlying50 info_str rfl (by decide) wr _ ((trkL ss k).map strC) (strC ⟨#[]⟩) (by rfl) rfl rfl hown (by first | rfl | (simp; done)) rfl rfl (by rw [List.length_map]; omega) (by rw [List.length_map]; omega) hlb0 ?_; intro tv5 ww5 hown5 hgr hbk hsz)
        have hb5 := hbk _ _ _ hb hbe
        have hg5 := hgr _ hg (by omega)
        rw [show (trkL ss k).map strC ++ [strC ⟨#[]⟩] = (trkY ss k).map strC from by rw [hY, List.map_append]; rfl] at hown5
        clear hgr hbk hown hb hg hY hm hll hbe q0
        have hlen1 : ((trkY ss k).map strC).length = k / 8 + 1 := by rw [List.length_map, trkY_len]
        have hidx : k / 8 < (trkY ss k).length := by rw [trkY_len]; omega
        have hnx := trkL_next ss k hlt hidx
        have hys := trkY_size ss k HZ.out _ (List.getElem_mem hidx)
        obtain ⟨y, hy⟩ : ∃ y, (trkY ss k)[k / 8] = y := ⟨_, rfl⟩
        rw [hy, hx] at hnx
        rw [hy] at hys
        have hrow : ((trkY ss k).map strC)[k / 8]? = some (strC y) := by rw [List.getElem?_map, List.getElem?_eq_getElem hidx, hy]; rfl
        obtain ⟨q, hq⟩ : ∃ q, k / 8 = q := ⟨_, rfl⟩
        have hqb : q ≤ 100000 := by omega
        rw [hq] at hrow hlen1 hnx
        obtain ⟨g, cap, hv, hgb, hgs⟩ : ∃ g cap, tv5 = .slice (some ⟨g, 0, none⟩) (q + 1) cap ∧ w.heap.size + 1 ≤ g ∧ g < ww5.heap.size := by
          rcases hown5.form with ⟨_, h0⟩ | ⟨g, cap, hv, h1, h2, _⟩
          · have := congrArg List.length h0; rw [hlen1, List.length_nil] at this; omega
          · rw [hlen1] at hv; exact ⟨g, cap, hv, h1, h2⟩
        subst hv
        have t0 : ww5.cell? ⟨g, q, none⟩ = some (.string y) := by have := hown5.cell hrow (i := 0) rfl; simpa using this
        have tf := hown5.frozen q
        have hset := hown5.set_ hrow (i := 0) (o := q) (by decide) (by omega) (.string (y ++ x))
        have HSET := Lib.hid (show OwnL (ww5.setCell ⟨g, q, none⟩ (.string (y ++ x))) (w.heap.size + 1) 9 1 (.slice (some ⟨g, 0, none⟩) (q + 1) cap) ((trkL ss (k + 1)).map strC) from by rw [hnx, List.map_set]; exact hset)
        have HB9 := Lib.hid (hb5.far (p := ⟨g, q, none⟩) (by show w.heap.size ≠ g; omega) (.string (y ++ x)))
        have HG9 := Lib.hid (hg5.setCell (p := ⟨g, q, none⟩) (by show w.heap.size ≤ g; omega) (.string (y ++ x)))
        obtain ⟨n, hn1⟩ : ∃ n, q + 1 = n := ⟨_, rfl⟩
        have hq63 : (n : Int) - 1 = (q : Int) := by omega
        rw [hn1] at HSET ⊢
        clear hset hown5 hb5 hg5 hnx hrow hlen1 hy hidx hq
        go_wp2_with fail
        go_roundg (ss.length - (k + 1))
        case measure => rw [HGK.out]; omega
        case rel => exact ⟨k + 1, _, by omega, by omega, rfl, by go_num, HN128.out, HSET.out, HB9.out, HG9.out⟩
      · have hm : ((k : Int) % 8 == 0) = false := by rw [beq_eq_false_iff_ne]; omega
        have hY := trkY_old ss k h8
        have hown6 : OwnL wr (w.heap.size + 1) 9 1 tv ((trkY ss k).map strC) := by rw [hY]; exact hown
        have hb6 := hb
        have hg6 := hg
        clear h8 h128 hown hb hg hY
        have hlen1 : ((trkY ss k).map strC).length = k / 8 + 1 := by rw [List.length_map, trkY_len]
        have hidx : k / 8 < (trkY ss k).length := by rw [trkY_len]; omega
        have hnx := trkL_next ss k hlt hidx
        have hys := trkY_size ss k HZ.out _ (List.getElem_mem hidx)
        obtain ⟨y, hy⟩ : ∃ y, (trkY ss k)[k / 8] = y := ⟨_, rfl⟩
        rw [hy, hx] at hnx
        rw [hy] at hys
        have hrow : ((trkY ss k).map strC)[k / 8]? = some (strC y) := by rw [List.getElem?_map, List.getElem?_eq_getElem hidx, hy]; rfl
        obtain ⟨q, hq⟩ : ∃ q, k / 8 = q := ⟨_, rfl⟩
        have hqb : q ≤ 100000 := by omega
        rw [hq] at hrow hlen1 hnx
        obtain ⟨g, cap, hv, hgb, hgs⟩ : ∃ g cap, tv = .slice (some ⟨g, 0, none⟩) (q + 1) cap ∧ w.heap.size + 1 ≤ g ∧ g < wr.heap.size := by
          rcases hown6.form with ⟨_, h0⟩ | ⟨g, cap, hv, h1, h2, _⟩
          · have := congrArg List.length h0; rw [hlen1, List.length_nil] at this; omega
          · rw [hlen1] at hv; exact ⟨g, cap, hv, h1, h2⟩
        subst hv
        have t0 : wr.cell? ⟨g, q, none⟩ = some (.string y) := by have := hown6.cell hrow (i := 0) rfl; simpa using this
        have tf := hown6.frozen q
        have hset := hown6.set_ hrow (i := 0) (o := q) (by decide) (by omega) (.string (y ++ x))
        have HSET := Lib.hid (show OwnL (wr.setCell ⟨g, q, none⟩ (.string (y ++ x))) (w.heap.size + 1) 9 1 (.slice (some ⟨g, 0, none⟩) (q + 1) cap) ((trkL ss (k + 1)).map strC) from by rw [hnx, List.map_set]; exact hset)
        have HB9 := Lib.hid (hb6.far (p := ⟨g, q, none⟩) (by show w.heap.size ≠ g; omega) (.string (y ++ x)))
        have HG9 := Lib.hid (hg6.setCell (p := ⟨g, q, none⟩) (by show w.heap.size ≤ g; omega) (.string (y ++ x)))
        obtain ⟨n, hn1⟩ : ∃ n, q + 1 = n := ⟨_, rfl⟩
        have hq63 : (n : Int) - 1 = (q : Int) := by omega
        rw [hn1] at HSET ⊢
        clear hset hown6 hb6 hg6 hnx hrow hlen1 hy hidx hq
        go_wp2_with fail
        go_roundg (ss.length - (k + 1))
        case measure => rw [HGK.out]; omega
        case rel => exact ⟨k + 1, _, by omega, by omega, rfl, by go_num, HN128.out, HSET.out, HB9.out, HG9.out⟩
    · skip
      have hkn : k = ss.length := by omega
      subst hkn
      have H128 := Lib.hid (show ∀ x ∈ ss, x.size = 128 from by have := HALL.out; rwa [List.take_length] at this)
      have hll := trkL_len ss ss.length
      obtain ⟨A5, c5, hv5, hl5, hc5, hr5⟩ := hown.listAt
      rw [List.length_map] at hv5 hl5
      subst hv5
      have HR5 := Lib.hid hr5
      have HLL := Lib.hid hll
      obtain ⟨q, hq⟩ : ∃ q, (trkL ss ss.length).length = q := ⟨_, rfl⟩
      rw [hq] at hl5 ⊢
      have hqe : q = (ss.length + 7) / 8 := by rw [← hq]; exact HLL.out
      have HQ := Lib.hid hq
      have HQE := Lib.hid hqe
      have hgg := hg
      have HB := Lib.hid hb
      have HG := Lib.hid hg
      have z0 := hb.cell 0
      have z1 := hb.cell 1
      have z2 := hb.cell 2
      have f0 := hb.frozen 0
      have f1 := hb.frozen 1
      have f2 := hb.frozen 2
      have hlb := hb.lt
      clear hr5 hll hq hown hb hgg hg hqe
      by_cases h0 : ss.length = 0
      · have hm : ((q : Int) == 0) = true := by rw [beq_iff_eq]; have := HQE.out; omega
        have HE := Lib.hid (ld_len ss (.inl h0))
        have hgg := HG.out
        clear h0
        go_wp2_with fail
        refine bodyPost_ret (by first | (simp [*, results, Tryz.results26, go_sem]; rfl) | simp [*, results, Tryz.results26, go_sem]) rfl ?_
        exact ⟨none, 0, [], tabZ, 11, rfl, HE.out, small_zero, TabAt.zero _, by (repeat' first | (with_reducible exact Grew.refl _) | (with_reducible assumption) | (with_reducible refine Grew.alloc ?_ _) | (with_reducible refine Grew.drew ?_) | (with_reducible refine Grew.drewN ?_ _) | (with_reducible refine Grew.setRow ?_ (by first | (simp; done) | (simp; omega) | omega) _) | (with_reducible refine Grew.setCell ?_ (by first | (simp; done) | (simp; omega) | omega) _) | ((with_reducible apply Grew.trans); rotate_left; (with_reducible assumption)) | ((with_reducible apply Grew.turn); rotate_left; (with_reducible assumption); (focus (intro i hi; first | omega | (simp at hi; omega)))) | fail)⟩
      have hm : ((q : Int) == 0) = false := by rw [beq_eq_false_iff_ne]; have := HQE.out; omega
      by_cases h8 : ss.length % 8 = 0
      rotate_left
      · have hm8 : ((ss.length : Int) % 8 != 0) = true := by rw [bne_iff_ne]; omega
        have HE := Lib.hid (ld_len ss (.inr h8))
        have hgg := HG.out
        clear h8
        go_wp2_with fail
        refine bodyPost_ret (by first | (simp [*, results, Tryz.results26, go_sem]; rfl) | simp [*, results, Tryz.results26, go_sem]) rfl ?_
        exact ⟨none, 0, [], tabZ, 11, rfl, HE.out, small_zero, TabAt.zero _, by (repeat' first | (with_reducible exact Grew.refl _) | (with_reducible assumption) | (with_reducible refine Grew.alloc ?_ _) | (with_reducible refine Grew.drew ?_) | (with_reducible refine Grew.drewN ?_ _) | (with_reducible refine Grew.setRow ?_ (by first | (simp; done) | (simp; omega) | omega) _) | (with_reducible refine Grew.setCell ?_ (by first | (simp; done) | (simp; omega) | omega) _) | ((with_reducible apply Grew.trans); rotate_left; (with_reducible assumption)) | ((with_reducible apply Grew.turn); rotate_left; (with_reducible assumption); (focus (intro i hi; first | omega | (simp at hi; omega)))) | fail)⟩
      have hm8 : ((ss.length : Int) % 8 != 0) = false := by rw [bne_eq_false_iff_eq]; omega
      obtain ⟨m, hm9⟩ : ∃ m, ss.length = 8 * (m + 1) := ⟨ss.length / 8 - 1, by omega⟩
      have hqm : q = m + 1 := by have := HQE.out; omega
      subst hqm
      have hrows := trkL_all ss (m + 1) (by omega)
      rw [hrows] at HR5
      have HR := Lib.hid (show ListAt wr wr.heap.size 1 A5 (((List.range (m + 1)).map (trkS ss)).map strC) from HR5.out)
      obtain ⟨b5, o5, rfl, hb5, hc5'⟩ := HR.out (by simp)
      have HC5 := Lib.hid (show ∀ j, j < m + 1 → ∀ w9, Grew wr w9 → w9.cell? ⟨b5, o5 + j, none⟩ = some (.string (trkS ss j)) from fun j hj w9 g9 => by
        rw [g9.cellEq _ _ hb5]
        have := hc5' j (strC (trkS ss j)) (by rw [List.getElem?_map, List.getElem?_map, List.getElem?_range hj]; rfl) 0 _ rfl
        simpa using this)
      have HM9 := Lib.hid hm9
      have q0 := HC5.out 0 (by omega) wr (Grew.refl _)
      rw [Nat.add_zero] at q0
      have hts : (trkS ss 0).size ≤ 8000 := trkS_size 1000 ss 0 HZ.out
      have C := fun w9 => decHead_any (trkS ss 0) w9 (by omega)
      rcases head_strict (trkS ss 0) with hh | ⟨nm, tt, hh, _, hnm, htt, hn8, ht0, ht1⟩
      · have HE := Lib.hid (ld_head ss hh)
        rw [hh] at C
        clear hh h0 h8 hm9 HR5 hrows hc5'
        go_wp2_with fail
        refine (C _).mono ?_
        rintro e w3 ⟨rfl, g3⟩
        have hb3 := HB.out.grew g3
        have hgg := HG.out.trans g3
        clear z0 z1 z2 f0 f1 f2 hlb g3
        have z0 := hb3.cell 0
        have z1 := hb3.cell 1
        have z2 := hb3.cell 2
        have f0 := hb3.frozen 0
        have f1 := hb3.frozen 1
        have f2 := hb3.frozen 2
        have hlb := hb3.lt
        go_wp2_with fail
        refine bodyPost_ret (by first | (simp [*, results, Tryz.results26, go_sem]; rfl) | simp [*, results, Tryz.results26, go_sem]) rfl ?_
        exact ⟨none, 0, [], tabZ, 11, rfl, HE.out, small_zero, TabAt.zero _, by (repeat' first | (with_reducible exact Grew.refl _) | (with_reducible assumption) | (with_reducible refine Grew.alloc ?_ _) | (with_reducible refine Grew.drew ?_) | (with_reducible refine Grew.drewN ?_ _) | (with_reducible refine Grew.setRow ?_ (by first | (simp; done) | (simp; omega) | omega) _) | (with_reducible refine Grew.setCell ?_ (by first | (simp; done) | (simp; omega) | omega) _) | ((with_reducible apply Grew.trans); rotate_left; (with_reducible assumption)) | ((with_reducible apply Grew.turn); rotate_left; (with_reducible assumption); (focus (intro i hi; first | omega | (simp at hi; omega)))) | fail)⟩
      rw [hh] at C
      have HH := Lib.hid hh
      have HTT := Lib.hid htt
      clear hh h0 h8 hm9 HR5 hrows hc5' htt
      go_wp2_with fail
      refine (C _).mono ?_
      rintro e w3 ⟨rfl, g3⟩
      have hb3 := HB.out.grew g3
      have hgg := HG.out.trans g3
      have HGW := Lib.hid g3
      have HG3 := Lib.hid hgg
      have HB3 := Lib.hid hb3
      clear z0 z1 z2 f0 f1 f2 hlb g3 q0 C
      have z0 := hb3.cell 0
      have z1 := hb3.cell 1
      have z2 := hb3.cell 2
      have f0 := hb3.frozen 0
      have f1 := hb3.frozen 1
      have f2 := hb3.frozen 2
      have hlb := hb3.lt
      obtain ⟨tts, htts⟩ : ∃ x, ttS tt = x := ⟨_, rfl⟩
      have HTTS := Lib.hid htts
      by_cases htb : ((m + 1 : Nat) : Int) = ttS tt
      rotate_left
      · have hne : ((m : Int) + 1 != tts) = true := by rw [bne_iff_ne]; omega
        have HE := Lib.hid (ld_table ss nm tt HH.out (by have := HM9.out; rw [show ss.length / 8 = m + 1 from by omega]; exact htb))
        clear htb htts
        go_wp2_with fail
        refine (table_any _ _).mono ?_
        rintro e w9 ⟨rfl, rfl⟩
        rw [HTTS.out]
        go_wp2_with fail
        refine bodyPost_ret (by first | (simp [*, results, Tryz.results26, go_sem]; rfl) | simp [*, results, Tryz.results26, go_sem]) rfl ?_
        exact ⟨none, 0, [], tabZ, 11, rfl, HE.out, small_zero, TabAt.zero _, by (repeat' first | (with_reducible exact Grew.refl _) | (with_reducible assumption) | (with_reducible refine Grew.alloc ?_ _) | (with_reducible refine Grew.drew ?_) | (with_reducible refine Grew.drewN ?_ _) | (with_reducible refine Grew.setRow ?_ (by first | (simp; done) | (simp; omega) | omega) _) | (with_reducible refine Grew.setCell ?_ (by first | (simp; done) | (simp; omega) | omega) _) | ((with_reducible apply Grew.trans); rotate_left; (with_reducible assumption)) | ((with_reducible apply Grew.turn); rotate_left; (with_reducible assumption); (focus (intro i hi; first | omega | (simp at hi; omega)))) | fail)⟩
      have hne : ((m : Int) + 1 != tts) = false := by rw [bne_eq_false_iff_eq]; omega
      have HTB := Lib.hid htb
      have hm32 : m ≤ 32 := by have := ttS_bd tt; omega
      have hT0 := Blk.new w3 24 #[.string nm, .int .i64 tt, .slice none 0 0] rfl
      have hG0 := (Grew.refl w3).alloc (.cells #[.string nm, .int .i64 tt, .slice none 0 0] 24)
      have HT0 := Lib.hid hT0
      have HGT0 := Lib.hid hG0
      clear htb htts hT0 hG0 hgg hb3 z0 z1 z2 f0 f1 f2
      go_wp2_with fail
      refine (table_any _ _).mono ?_
      rintro e w9 ⟨rfl, rfl⟩
      rw [HTTS.out]
      by_cases hc51 : c5 = 1
      · subst hc51
        have hm0 : m < 1 := by omega
        go_wp2_with fail
        obtain ⟨wo, hwo⟩ : ∃ wo : World, wo = wr := ⟨_, rfl⟩
        subst hwo
        go_loopg [76] m (fun gk i wq => ∃ (k : Nat) (v : Value) (ys : List LabE) (ls : List Lab), k ≤ m ∧ gk = m - k ∧ i = .int .i64 k ∧ ls.length = k ∧ (∀ j (hj : j < ls.length), decP (trkS ss (j + 1)) tt = (ls[j], 0)) ∧ (∀ l ∈ ls, l.ext.length ≤ 1000) ∧ TabO wq (w3.heap.size + 1) v ys ls ∧ Blk wq w3.heap.size 24 #[.string nm, .int .i64 tt, v] ∧ Grew w3 wq)
        case atStart => exact ⟨0, _, [], [], by omega, by omega, rfl, rfl, fun j hj => absurd hj (Nat.not_lt_zero _), fun l hl => (by cases hl), ⟨OwnL.nil _ _ _ _, fun y hy => (by cases hy), fun y hy => (by cases hy), rfl⟩, HT0.out, HGT0.out⟩
        case round =>
          obtain ⟨wq, hwq⟩ : ∃ wq : World, wq = wr := ⟨_, rfl⟩
          subst hwq
          obtain ⟨k, v, ys, ls, hk, hgk, rfl, hlk, hdec, hsm, hto, hbt, hgq⟩ := hrel
          obtain ⟨Av, cv, hv, hfm⟩ := hto.form
          subst hv
          have HGK := Lib.hid hgk
          have HDEC := Lib.hid hdec
          have HSM := Lib.hid hsm
          have HTO := Lib.hid hto
          have HBT := Lib.hid hbt
          have HGQ := Lib.hid hgq
          have HGA := Lib.hid (HG3.out.trans hgq)
          have hb3 := HB3.out.grew hgq
          clear hgk hdec hsm hto hbt
          by_cases hlt : k < m
          · exact absurd hlt (by omega)
          · have hkm : k = m := by omega
            subst hkm
            have HLK := Lib.hid hlk
            have hTb := HTB.out
            have hls : (ls.length : Int) = slotsS tt := by unfold slotsS; omega
            obtain ⟨T, hT⟩ : ∃ T : Tab, T = ⟨nm, tt, ls⟩ := ⟨_, rfl⟩
            have htab := hfm nm tt (by omega) (by omega) (by omega)
            have hlT : T.labels.length = ls.length := by rw [hT]
            have hsmT : SmallT T := by rw [hT]; exact ⟨by show ls.length ≤ 1000; omega, HSM.out⟩
            rw [← hT] at htab
            have HST := Lib.hid hsmT
            have CV := fun w9 (g9 : Grew wq w9) => valid_tab Av cv ys T w9 (htab.hold g9) hsmT k (hlT.trans hlk).symm
            have HEND := Lib.hid (fun hno => ld_end ss nm tt ls HH.out hls HDEC.out hno)
            have HOK := Lib.hid (fun hv => load_ok ss nm tt ls H128.out (by rw [hlk]; exact HM9.out) HH.out HDEC.out hv)
            rw [← hT] at HEND HOK
            have HTE := Lib.hid hT
            have htn : T.name = nm := by rw [hT]
            have htt2 : T.tracks = tt := by rw [hT]
            rw [htn, htt2] at CV
            have HTN := Lib.hid htn
            have HTK := Lib.hid htt2
            have HLT := Lib.hid hlT
            have x0 := HBT.out.cell 0
            have x1 := HBT.out.cell 1
            have x2 := HBT.out.cell 2
            have hlw := HBT.out.lt
            clear hfm htab hsmT hT htn htt2 hlT hTb hls
            cases hv : validT T with
            | false =>
              have HE := Lib.hid (HEND.out (fun h9 => by rw [hv] at h9; cases h9.1))
              rw [hv] at CV
              clear hv
              go_wp2_with fail
              refine (CV _ (Grew.refl _)).mono ?_
              rintro e w8 ⟨rfl, g8⟩
              have hb8 := hb3.grew g8
              have hgg := HGA.out.trans g8
              clear hb3 x0 x1 x2 hlw g8
              have z0 := hb8.cell 0
              have z1 := hb8.cell 1
              have z2 := hb8.cell 2
              have f0 := hb8.frozen 0
              have f1 := hb8.frozen 1
              have f2 := hb8.frozen 2
              have hlb := hb8.lt
              go_wp2_with fail
              refine bodyPost_ret (by first | (simp [*, results, Tryz.results26, go_sem]; rfl) | simp [*, results, Tryz.results26, go_sem]) rfl ?_
              exact ⟨none, 0, [], tabZ, 11, rfl, HE.out, small_zero, TabAt.zero _, by (repeat' first | (with_reducible exact Grew.refl _) | (with_reducible assumption) | (with_reducible refine Grew.alloc ?_ _) | (with_reducible refine Grew.drew ?_) | (with_reducible refine Grew.drewN ?_ _) | (with_reducible refine Grew.setRow ?_ (by first | (simp; done) | (simp; omega) | omega) _) | (with_reducible refine Grew.setCell ?_ (by first | (simp; done) | (simp; omega) | omega) _) | ((with_reducible apply Grew.trans); rotate_left; (with_reducible assumption)) | ((with_reducible apply Grew.turn); rotate_left; (with_reducible assumption); (focus (intro i hi; first | omega | (simp at hi; omega)))) | fail)⟩
            | true =>
              have HE := Lib.hid (show LdS ss T 0 from .inl ⟨HOK.out hv, rfl⟩)
              rw [hv] at CV
              clear hv
              go_wp2_with fail
              refine (CV _ (Grew.refl _)).mono ?_
              rintro e w8 ⟨rfl, g8⟩
              have hb8 := hb3.grew g8
              have hgg := HGA.out.trans g8
              have hbt8 := HBT.out.grew g8
              have HTC := Lib.hid (show TabO w8 (w3.heap.size + 1) (.slice Av k cv) ys ls from by rw [← HLK.out]; exact HTO.out.hold g8)
              have HAP := Lib.hid ((HTO.out.hold g8).apart hb8)
              clear hb3 x0 x1 x2 hlw g8
              have x0 := hbt8.cell 0
              have x1 := hbt8.cell 1
              have x2 := hbt8.cell 2
              have hlw := hbt8.lt
              have z0 := hb8.cell 0
              have z1 := hb8.cell 1
              have z2 := hb8.cell 2
              have f0 := hb8.frozen 0
              have f1 := hb8.frozen 1
              have f2 := hb8.frozen 2
              have hlb := hb8.lt
              have HGG := Lib.hid hgg
              clear hb8 hgg hbt8
              have hw30 := HB3.out.lt
              go_wp2_with fail
              refine bodyPost_ret (by first | (simp [*, results, Tryz.results26, go_sem]; rfl) | simp [*, results, Tryz.results26, go_sem]) rfl ?_
              refine ⟨Av, cv, ys, T, 0, by rw [HTN.out, HTK.out, HLT.out, HLK.out], HE.out, HST.out, ?_, by have hgg := HGG.out; (repeat' first | (with_reducible exact Grew.refl _) | (with_reducible assumption) | (with_reducible refine Grew.alloc ?_ _) | (with_reducible refine Grew.drew ?_) | (with_reducible refine Grew.drewN ?_ _) | (with_reducible refine Grew.setRow ?_ (by first | (simp; done) | (simp; omega) | omega) _) | (with_reducible refine Grew.setCell ?_ (by first | (simp; done) | (simp; omega) | omega) _) | ((with_reducible apply Grew.trans); rotate_left; (with_reducible assumption)) | ((with_reducible apply Grew.turn); rotate_left; (with_reducible assumption); (focus (intro i hi; first | omega | (simp at hi; omega)))) | fail)⟩
              have hto9 : TabO (((w8.setCell ⟨w.heap.size, 0, none⟩ (.string nm)).setCell ⟨w.heap.size, 1, none⟩ (.int .i64 tt)).setCell ⟨w.heap.size, 2, none⟩ (.slice Av k cv)) (w3.heap.size + 1) (.slice Av k cv) ys ls := HTC.out.turned (S := fun q => q = w.heap.size) (by (repeat' first | (with_reducible exact Turned.refl _ _) | (with_reducible assumption) | (with_reducible refine Turned.alloc ?_ _) | (with_reducible refine Turned.drew ?_) | (with_reducible refine Turned.drewN ?_ _) | (with_reducible refine Turned.setRow ?_ (by first | (simp; done) | (simp; omega) | omega) _) | (with_reducible refine Turned.setCell ?_ (by first | (simp; done) | (simp; omega) | omega) _) | ((with_reducible apply Turned.andGrew); rotate_left; (with_reducible assumption)) | ((with_reducible apply Turned.trans); rotate_left; (with_reducible assumption)) | fail)) (fun q hq => by have h1 := (HTC.out.own.own_ge hq).1; omega) (fun y hy h0 b off e => HAP.out y hy h0 b off e)
              obtain ⟨A8, c8, hv8, hfm8⟩ := hto9.form
              injection hv8 with hv1 _ hv2
              subst hv1; subst hv2
              rw [HTE.out]
              exact hfm8 nm tt (by omega) (by omega) (by omega)
      go_wp2_with fail
      obtain ⟨wo, hwo⟩ : ∃ wo : World, wo = wr := ⟨_, rfl⟩
      subst hwo
      go_loopg [76] m (fun gk i wq => ∃ (k : Nat) (v : Value) (ys : List LabE) (ls : List Lab), k ≤ m ∧ gk = m - k ∧ i = .int .i64 k ∧ ls.length = k ∧ (∀ j (hj : j < ls.length), decP (trkS ss (j + 1)) tt = (ls[j], 0)) ∧ (∀ l ∈ ls, l.ext.length ≤ 1000) ∧ TabO wq (w3.heap.size + 1) v ys ls ∧ Blk wq w3.heap.size 24 #[.string nm, .int .i64 tt, v] ∧ Grew w3 wq)
      case atStart => exact ⟨0, _, [], [], by omega, by omega, rfl, rfl, fun j hj => absurd hj (Nat.not_lt_zero _), fun l hl => (by cases hl), ⟨OwnL.nil _ _ _ _, fun y hy => (by cases hy), fun y hy => (by cases hy), rfl⟩, HT0.out, HGT0.out⟩
      case round =>
        obtain ⟨wq, hwq⟩ : ∃ wq : World, wq = wr := ⟨_, rfl⟩
        subst hwq
        obtain ⟨k, v, ys, ls, hk, hgk, rfl, hlk, hdec, hsm, hto, hbt, hgq⟩ := hrel
        obtain ⟨Av, cv, hv, hfm⟩ := hto.form
        subst hv
        have HGK := Lib.hid hgk
        have HDEC := Lib.hid hdec
        have HSM := Lib.hid hsm
        have HTO := Lib.hid hto
        have HBT := Lib.hid hbt
        have HGQ := Lib.hid hgq
        have HGA := Lib.hid (HG3.out.trans hgq)
        have hb3 := HB3.out.grew hgq
        clear hgk hdec hsm hto hbt
        by_cases hlt : k < m
        · have q0 : wq.cell? ⟨b5, o5 + 1 + k, none⟩ = some (.string (trkS ss (k + 1))) := by have := HC5.out (k + 1) (by omega) wq (HGW.out.trans hgq); rwa [show o5 + (k + 1) = o5 + 1 + k from by omega] at this
          have hts2 : (trkS ss (k + 1)).size ≤ 8000 := trkS_size 1000 ss (k + 1) HZ.out
          have hb5q : b5 < wq.heap.size := by have := HGW.out.size; have := hgq.size; omega
          have CD := fun w9 => decode_lab (trkS ss (k + 1)) tt w9 (by omega) (by omega) (by omega)
          have hlw := HBT.out.lt
          rcases decP_pair (trkS ss (k + 1)) tt with ⟨l, hd, hle⟩ | hd
          rotate_left
          · have HE := Lib.hid (ld_dec ss nm tt HH.out k (by have := HTB.out; omega) hd)
            rw [hd] at CD
            clear hd
            go_wp2_with fail
            refine (CD _).mono ?_
            rintro e w4 ⟨A4, c4, rfl, hl4, g4, hn4⟩
            have hb4 := hb3.grew g4
            have hgg := HGA.out.trans g4
            clear hb3 hl4 hn4 q0
            have z0 := hb4.cell 0
            have z1 := hb4.cell 1
            have z2 := hb4.cell 2
            have f0 := hb4.frozen 0
            have f1 := hb4.frozen 1
            have f2 := hb4.frozen 2
            have hlb := hb4.lt
            go_wp2_with fail
            refine bodyPost_ret (by first | (simp [*, results, Tryz.results26, go_sem]; rfl) | simp [*, results, Tryz.results26, go_sem]) rfl ?_
            exact ⟨none, 0, [], tabZ, 11, rfl, HE.out, small_zero, TabAt.zero _, by (repeat' first | (with_reducible exact Grew.refl _) | (with_reducible assumption) | (with_reducible refine Grew.alloc ?_ _) | (with_reducible refine Grew.drew ?_) | (with_reducible refine Grew.drewN ?_ _) | (with_reducible refine Grew.setRow ?_ (by first | (simp; done) | (simp; omega) | omega) _) | (with_reducible refine Grew.setCell ?_ (by first | (simp; done) | (simp; omega) | omega) _) | ((with_reducible apply Grew.trans); rotate_left; (with_reducible assumption)) | ((with_reducible apply Grew.turn); rotate_left; (with_reducible assumption); (focus (intro i hi; first | omega | (simp at hi; omega)))) | fail)⟩
          have HD := Lib.hid hd
          rw [hd] at CD
          clear hd hb3
          go_wp2_with fail
          refine (CD _).mono ?_
          rintro e w4 ⟨A4, c4, rfl, hl4, g4, hn4⟩
          clear q0
          have hbt4 := HBT.out.grew g4
          have hto4 := HTO.out.hold g4
          have hgq4 := HGQ.out.trans g4
          have hlw4 := hbt4.lt
          have hgs4 : wq.heap.size ≤ w4.heap.size := g4.size
          have hnew : 0 < l.ext.length → ∀ b off, A4 = some ⟨b, off, none⟩ → (Value.slice Av k cv).ownBlock ≠ some b := fun _ b off e hq => by
            have h1 := hn4 b off e
            have h2 := (HTO.out.own.own_ge (show (Value.slice Av ls.length cv).ownBlock = some b from by rw [hlk]; exact hq)).2
            omega
          obtain ⟨W1, hW1⟩ : ∃ W1, W1 = w4.alloc (.cells #[.int .i64 l.id, .int .i64 l.unit, .string l.name, .string l.note, .slice A4 l.ext.length c4] 31) := ⟨_, rfl⟩
          have gal1 : Grew w4 W1 := by rw [hW1]; exact (Grew.refl w4).alloc _
          have hn1 : Blk W1 w4.heap.size 31 #[.int .i64 l.id, .int .i64 l.unit, .string l.name, .string l.note, .slice A4 l.ext.length c4] := by rw [hW1]; exact Blk.new w4 _ _ rfl
          have hW1s : W1.heap.size = w4.heap.size + 1 := by rw [hW1]; simp
          obtain ⟨W2, hW2⟩ : ∃ W2, W2 = W1.alloc (.cells #[.int .i64 l.id, .int .i64 l.unit, .string l.name, .string l.note, .slice A4 l.ext.length c4] 31) := ⟨_, rfl⟩
          have gal2 : Grew W1 W2 := by rw [hW2]; exact (Grew.refl W1).alloc _
          have hW2s : W2.heap.size = W1.heap.size + 1 := by rw [hW2]; simp
          have hnb : Blk W2 W1.heap.size 31 (labC ⟨A4, c4, l⟩).toArray := by rw [hW2]; exact Blk.new W1 _ _ rfl
          have g42 := gal1.trans gal2
          have hto2 := hto4.hold g42
          have hbt2 := hbt4.grew g42
          have hgq2 := hgq4.trans g42
          have hla2 := hl4.hold g42
          have hyl : (ys.map labC).length = k := by rw [List.length_map, hto2.len, hlk]
          have y0 := hn1.cell 0
          have y1 := hn1.cell 1
          have y2 := hn1.cell 2
          have y3 := hn1.cell 3
          have y4 := hn1.cell 4
          have hnl := hn1.lt
          have t2 := hbt4.cell 2
          have HLA2 := Lib.hid hla2
          have HTO2 := Lib.hid (show TabO W2 (w3.heap.size + 1) (.slice Av k cv) ys ls from by rw [← hlk]; exact hto2)
          have HBT2 := Lib.hid hbt2
          have HGQ2 := Lib.hid hgq2
          have HNB := Lib.hid (show Blk W2 (w4.heap.size + 1) 31 (labC ⟨A4, c4, l⟩).toArray from by rw [← hW1s]; exact hnb)
          have HNEW := Lib.hid hnew
          have h3g : w3.heap.size < W2.heap.size := hbt2.lt
          clear hto4 hgq4 hl4 hn4 hnew hla2 hgq2 hnb hbt2 hto2 g42 gal1 gal2
          go_wp2_with (at_builtin; rw [← hW1, ← hW2]; refine wpList_push2 rfl _ _ 22 rfl (w3.heap.size + 1) 31 5 72 _ Tryz.underlying22 info_lab rfl (by decide) W2 _ (ys.map labC) (labC ⟨A4, c4, l⟩) rfl (by rfl) HTO2.out.own (w4.heap.size + 1) (by rfl) HNB.out rfl (by rw [hyl]; omega) (by rw [hyl]; omega) (by omega) _ hyl ?_; intro g5 cap5 w5 hown5 hgr5 hat5 hg5; have hbt5 := HBT2.out.own hgr5 (fun hq => by have : w3.heap.size + 1 ≤ w3.heap.size := (HTO2.out.own.own_ge hq).1; omega); have u2 := hbt5.cell 2; have uf2 := hbt5.frozen 2; have hlw5 := hbt5.lt)
          have hto5 := HTO2.out.push ⟨A4, c4, l⟩ hown5 hgr5 hat5 HLA2.out HNEW.out
          have hge5 : w3.heap.size + 1 ≤ g5 := (hown5.own_ge (g := g5) rfl).1
          have hap5 := hto5.apart hbt5
          have hto6 := hto5.turned (S := fun q => q = w3.heap.size) ((Turned.refl (fun q => q = w3.heap.size) w5).setCell (p := ⟨w3.heap.size, 2, none⟩) (fun _ => rfl) (.slice (some ⟨g5, 0, none⟩) (k + 1) cap5)) (fun g hq => by simp only [Value.ownBlock, Option.some.injEq] at hq; omega) hap5
          have hbt6 := (hbt5.set_ 2 (.slice (some ⟨g5, 0, none⟩) (k + 1) cap5)).conv (ds := #[.string nm, .int .i64 tt, .slice (some ⟨g5, 0, none⟩) (k + 1) cap5]) rfl
          have hg6 := (Grew.own HGQ2.out hgr5 HTO2.out.own.row_ge (by omega)).setCell (p := ⟨w3.heap.size, 2, none⟩) (Nat.le_refl _) (.slice (some ⟨g5, 0, none⟩) (k + 1) cap5)
          have HDE := Lib.hid (dec_snoc HDEC.out (by rw [hlk]; exact HD.out))
          go_roundg (m - (k + 1))
          case measure => rw [HGK.out]; omega
          case rel => exact ⟨k + 1, _, _, ls ++ [l], by omega, by omega, by go_num, by rw [List.length_append, hlk]; rfl, HDE.out, ext_snoc HSM.out hle, hto6, hbt6, hg6⟩
        · have hkm : k = m := by omega
          subst hkm
          have HLK := Lib.hid hlk
          have hTb := HTB.out
          have hls : (ls.length : Int) = slotsS tt := by unfold slotsS; omega
          obtain ⟨T, hT⟩ : ∃ T : Tab, T = ⟨nm, tt, ls⟩ := ⟨_, rfl⟩
          have htab := hfm nm tt (by omega) (by omega) (by omega)
          have hlT : T.labels.length = ls.length := by rw [hT]
          have hsmT : SmallT T := by rw [hT]; exact ⟨by show ls.length ≤ 1000; omega, HSM.out⟩
          rw [← hT] at htab
          have HST := Lib.hid hsmT
          have CV := fun w9 (g9 : Grew wq w9) => valid_tab Av cv ys T w9 (htab.hold g9) hsmT k (hlT.trans hlk).symm
          have HEND := Lib.hid (fun hno => ld_end ss nm tt ls HH.out hls HDEC.out hno)
          have HOK := Lib.hid (fun hv => load_ok ss nm tt ls H128.out (by rw [hlk]; exact HM9.out) HH.out HDEC.out hv)
          rw [← hT] at HEND HOK
          have HTE := Lib.hid hT
          have htn : T.name = nm := by rw [hT]
          have htt2 : T.tracks = tt := by rw [hT]
          rw [htn, htt2] at CV
          have HTN := Lib.hid htn
          have HTK := Lib.hid htt2
          have HLT := Lib.hid hlT
          have x0 := HBT.out.cell 0
          have x1 := HBT.out.cell 1
          have x2 := HBT.out.cell 2
          have hlw := HBT.out.lt
          clear hfm htab hsmT hT htn htt2 hlT hTb hls
          cases hv : validT T with
          | false =>
            have HE := Lib.hid (HEND.out (fun h9 => by rw [hv] at h9; cases h9.1))
            rw [hv] at CV
            clear hv
            go_wp2_with fail
            refine (CV _ (Grew.refl _)).mono ?_
            rintro e w8 ⟨rfl, g8⟩
            have hb8 := hb3.grew g8
            have hgg := HGA.out.trans g8
            clear hb3 x0 x1 x2 hlw g8
            have z0 := hb8.cell 0
            have z1 := hb8.cell 1
            have z2 := hb8.cell 2
            have f0 := hb8.frozen 0
            have f1 := hb8.frozen 1
            have f2 := hb8.frozen 2
            have hlb := hb8.lt
            go_wp2_with fail
            refine bodyPost_ret (by first | (simp [*, results, Tryz.results26, go_sem]; rfl) | simp [*, results, Tryz.results26, go_sem]) rfl ?_
            exact ⟨none, 0, [], tabZ, 11, rfl, HE.out, small_zero, TabAt.zero _, by (repeat' first | (with_reducible exact Grew.refl _) | (with_reducible assumption) | (with_reducible refine Grew.alloc ?_ _) | (with_reducible refine Grew.drew ?_) | (with_reducible refine Grew.drewN ?_ _) | (with_reducible refine Grew.setRow ?_ (by first | (simp; done) | (simp; omega) | omega) _) | (with_reducible refine Grew.setCell ?_ (by first | (simp; done) | (simp; omega) | omega) _) | ((with_reducible apply Grew.trans); rotate_left; (with_reducible assumption)) | ((with_reducible apply Grew.turn); rotate_left; (with_reducible assumption); (focus (intro i hi; first | omega | (simp at hi; omega)))) | fail)⟩
          | true =>
            have HE := Lib.hid (show LdS ss T 0 from .inl ⟨HOK.out hv, rfl⟩)
            rw [hv] at CV
            clear hv
            go_wp2_with fail
            refine (CV _ (Grew.refl _)).mono ?_
            rintro e w8 ⟨rfl, g8⟩
            have hb8 := hb3.grew g8
            have hgg := HGA.out.trans g8
            have hbt8 := HBT.out.grew g8
            have HTC := Lib.hid (show TabO w8 (w3.heap.size + 1) (.slice Av k cv) ys ls from by rw [← HLK.out]; exact HTO.out.hold g8)
            have HAP := Lib.hid ((HTO.out.hold g8).apart hb8)
            clear hb3 x0 x1 x2 hlw g8
            have x0 := hbt8.cell 0
            have x1 := hbt8.cell 1
            have x2 := hbt8.cell 2
            have hlw := hbt8.lt
            have z0 := hb8.cell 0
            have z1 := hb8.cell 1
            have z2 := hb8.cell 2
            have f0 := hb8.frozen 0
            have f1 := hb8.frozen 1
            have f2 := hb8.frozen 2
            have hlb := hb8.lt
            have HGG := Lib.hid hgg
            clear hb8 hgg hbt8
            have hw30 := HB3.out.lt
            go_wp2_with fail
            refine bodyPost_ret (by first | (simp [*, results, Tryz.results26, go_sem]; rfl) | simp [*, results, Tryz.results26, go_sem]) rfl ?_
            refine ⟨Av, cv, ys, T, 0, by rw [HTN.out, HTK.out, HLT.out, HLK.out], HE.out, HST.out, ?_, by have hgg := HGG.out; (repeat' first | (with_reducible exact Grew.refl _) | (with_reducible assumption) | (with_reducible refine Grew.alloc ?_ _) | (with_reducible refine Grew.drew ?_) | (with_reducible refine Grew.drewN ?_ _) | (with_reducible refine Grew.setRow ?_ (by first | (simp; done) | (simp; omega) | omega) _) | (with_reducible refine Grew.setCell ?_ (by first | (simp; done) | (simp; omega) | omega) _) | ((with_reducible apply Grew.trans); rotate_left; (with_reducible assumption)) | ((with_reducible apply Grew.turn); rotate_left; (with_reducible assumption); (focus (intro i hi; first | omega | (simp at hi; omega)))) | fail)⟩
            have hto9 : TabO (((w8.setCell ⟨w.heap.size, 0, none⟩ (.string nm)).setCell ⟨w.heap.size, 1, none⟩ (.int .i64 tt)).setCell ⟨w.heap.size, 2, none⟩ (.slice Av k cv)) (w3.heap.size + 1) (.slice Av k cv) ys ls := HTC.out.turned (S := fun q => q = w.heap.size) (by (repeat' first | (with_reducible exact Turned.refl _ _) | (with_reducible assumption) | (with_reducible refine Turned.alloc ?_ _) | (with_reducible refine Turned.drew ?_) | (with_reducible refine Turned.drewN ?_ _) | (with_reducible refine Turned.setRow ?_ (by first | (simp; done) | (simp; omega) | omega) _) | (with_reducible refine Turned.setCell ?_ (by first | (simp; done) | (simp; omega) | omega) _) | ((with_reducible apply Turned.andGrew); rotate_left; (with_reducible assumption)) | ((with_reducible apply Turned.trans); rotate_left; (with_reducible assumption)) | fail)) (fun q hq => by have h1 := (HTC.out.own.own_ge hq).1; omega) (fun y hy h0 b off e => HAP.out y hy h0 b off e)
            obtain ⟨A8, c8, hv8, hfm8⟩ := hto9.form
            injection hv8 with hv1 _ hv2
            subst hv1; subst hv2
            rw [HTE.out]
            exact hfm8 nm tt (by omega) (by omega) (by omega)
end Go.Proofs.YtnlaogneceanoaaGreat
namespace Go.Proofs.YtnlaogneceanoaaGreat
set_option linter.unusedVariables false
set_option linter.unusedSimpArgs false
set_option linter.unusedSectionVars false
open Go.RowKit
attribute [local go_sem ↓] Go.wp_at_zero Go.wp_at_succ
theorem TabAt.turned {S : Nat → Prop} {w w' : World} {A : Option Addr} {c : Nat} {xs : List LabE} {T : Tab} (h : TabAt w A c xs T) (ht : Turned S w w') (h1 : 0 < xs.length → ∀ b off, A = some ⟨b, off, none⟩ → ¬ S b) (h2 : ∀ x ∈ xs, 0 < x.l.ext.length → ∀ b off, x.A = some ⟨b, off, none⟩ → ¬ S b) : TabAt w' A c xs T :=
  ⟨fun x hx => (h.lab x hx).turned ht (h2 x hx), fun h0 => by
    obtain ⟨b, off, e, hb, hc⟩ := h.rows h0
    exact ⟨b, off, e, Nat.lt_of_lt_of_le hb ht.size, fun j cs hj i v hi => by rw [ht.cellEq _ _ hb (h1 (by simpa using h0) b off e)]; exact hc j cs hj i v hi⟩, h.len, h.cap, h.eq, h.tr0, h.tr1, h.name⟩
/-- A table is apart from a variable that holds one. -/
theorem TabAt.apart {w w' : World} {A : Option Addr} {c : Nat} {xs : List LabE} {T : Tab} (h : TabAt w A c xs T) {g : Nat} {t : TypeId} {s : ByteArray} {i : Int} {a : Option Addr} {n d : Nat} (hb : Blk w g t #[.string s, .int .i64 i, .slice a n d]) (ht : Turned (fun x => x = g) w w') : TabAt w' A c xs T := by
  refine h.turned ht (fun h0 b off e => ?_) (fun x hx h0 b off e => runs_ne_tab (h.lab x hx).runs h0 hb b off e)
  rintro rfl
  obtain ⟨b', off', e', hb', hc⟩ := h.rows (by simpa using h0)
  rw [e] at e'
  injection e' with e'
  injection e' with e1 e2 _
  subst e1; subst e2
  have hr : (xs.map labC)[0]? = some (labC xs[0]) := by rw [List.getElem?_map, List.getElem?_eq_getElem h0]; rfl
  have c0 := hc 0 _ hr 0 _ rfl
  have c1 := hc 0 _ hr 1 _ rfl
  rw [Nat.zero_mul, Nat.add_zero, hb.cell] at c0 c1
  match off with
  | 0 => simp at c0
  | 1 => simp at c1
  | 2 => simp at c0
  | off + 3 => simp at c0
section
variable (A : Option Addr) (c : Nat) (xs : List LabE) (T : Tab) (id unit : Int) (w : World)
set_option maxRecDepth 100000 in
set_option maxHeartbeats 4000000 in
theorem confirm_tab (h : TabAt w A c xs T) (hs : SmallT T) (note : ByteArray) (hns : note.size ≤ 9223372036854775807) (T' : Tab) (er : Int) (hr : chgT T id unit (chCon T id note) = (T', er)) :
    Calls Tryz.prog 35 #[.agg #[.string T.name, .int .i64 T.tracks, .slice A T.labels.length c], .agg #[.int .i64 id, .int .i64 unit], .string note] w (TabR w T' er) := by
  have hg0 := ((((Grew.refl w).alloc (.cells #[.string T.name, .int .i64 T.tracks, .slice A T.labels.length c] 24)).alloc (.cells #[.int .i64 id, .int .i64 unit] 26)).alloc (.cells #[.string note] 9)).alloc (.cells #[.string ⟨#[]⟩, .int .i64 0, .slice none 0 0] 24)
  have hb0 := (((Blk.new w 24 #[.string T.name, .int .i64 T.tracks, .slice A T.labels.length c] rfl).alloc (.cells #[.int .i64 id, .int .i64 unit] 26)).alloc (.cells #[.string note] 9)).alloc (.cells #[.string ⟨#[]⟩, .int .i64 0, .slice none 0 0] 24)
  have hr0 := ((Blk.new (w.alloc (.cells #[.string T.name, .int .i64 T.tracks, .slice A T.labels.length c] 24)) 26 #[.int .i64 id, .int .i64 unit] (n := w.heap.size + 1) (by simp)).alloc (.cells #[.string note] 9)).alloc (.cells #[.string ⟨#[]⟩, .int .i64 0, .slice none 0 0] 24)
  have hn0 := (Blk.new ((w.alloc (.cells #[.string T.name, .int .i64 T.tracks, .slice A T.labels.length c] 24)).alloc (.cells #[.int .i64 id, .int .i64 unit] 26)) 9 #[.string note] (n := w.heap.size + 2) (by simp)).alloc (.cells #[.string ⟨#[]⟩, .int .i64 0, .slice none 0 0] 24)
  have hz0 := Blk.new (((w.alloc (.cells #[.string T.name, .int .i64 T.tracks, .slice A T.labels.length c] 24)).alloc (.cells #[.int .i64 id, .int .i64 unit] 26)).alloc (.cells #[.string note] 9)) 24 #[.string ⟨#[]⟩, .int .i64 0, .slice none 0 0] (n := w.heap.size + 3) (by simp)
  have h0 := h.hold hg0
  have HC := Lib.hid (change_con A c xs T id unit _ (w.heap.size + 2) (w.heap.size + 1) h0 hs (chCon T id note) (fun w1 base g cap xo ys k hk _ ho => confirm1_any _ w1 base g cap xo ys T k hk ho hs h.name h.tr0 h.tr1 note hns id unit _ _ hn0 hr0) T' er hr)
  have HG0 := Lib.hid hg0
  have HZ0 := Lib.hid hz0
  clear h hs hg0 hb0 hr0 hn0 hz0 h0 
  go_enter Tryz.func35, Tryz.ntmps35
  go_wp2_with fail
  refine HC.out.mono ?_
  rintro e w1 ⟨A1, c1, xs1, rfl, ht1, g1⟩
  have hz1 := HZ0.out.grew g1
  have z0 := hz1.cell 0
  have z1 := hz1.cell 1
  have z2 := hz1.cell 2
  have f0 := hz1.frozen 0
  have f1 := hz1.frozen 1
  have f2 := hz1.frozen 2
  have hzl := hz1.lt
  have hg1 := HG0.out.trans g1
  have HT1 := Lib.hid (fun w2 (ht : Turned (fun x => x = w.heap.size + 3) w1 w2) => ht1.apart hz1 ht)
  clear hz1 g1 ht1
  go_wp2_with fail
  refine bodyPost_ret (by first | (simp [*, results, Tryz.results35, go_sem]; rfl) | simp [*, results, Tryz.results35, go_sem]) rfl ?_
  exact ⟨A1, c1, xs1, rfl, HT1.out _ (by (repeat' first | (with_reducible exact Turned.refl _ _) | (with_reducible assumption) | (with_reducible refine Turned.alloc ?_ _) | (with_reducible refine Turned.drew ?_) | (with_reducible refine Turned.drewN ?_ _) | (with_reducible refine Turned.setRow ?_ (by first | (simp; done) | (simp; omega) | omega) _) | (with_reducible refine Turned.setCell ?_ (by first | (simp; done) | (simp; omega) | omega) _) | ((with_reducible apply Turned.andGrew); rotate_left; (with_reducible assumption)) | ((with_reducible apply Turned.trans); rotate_left; (with_reducible assumption)) | fail)), by (repeat' first | (with_reducible exact Grew.refl _) | (with_reducible assumption) | (with_reducible refine Grew.alloc ?_ _) | (with_reducible refine Grew.drew ?_) | (with_reducible refine Grew.drewN ?_ _) | (with_reducible refine Grew.setRow ?_ (by first | (simp; done) | (simp; omega) | omega) _) | (with_reducible refine Grew.setCell ?_ (by first | (simp; done) | (simp; omega) | omega) _) | ((with_reducible apply Grew.trans); rotate_left; (with_reducible assumption)) | ((with_reducible apply Grew.turn); rotate_left; (with_reducible assumption); (focus (intro i hi; first | omega | (simp at hi; omega)))) | fail)⟩
end
end Go.Proofs.YtnlaogneceanoaaGreat
