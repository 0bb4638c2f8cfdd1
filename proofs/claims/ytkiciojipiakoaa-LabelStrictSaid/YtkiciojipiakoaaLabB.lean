/- Chapter 7: labels in memory; Few, Equal. -/
import Derived.Test.YtkiciojipiakoaaLabA
namespace Go.Proofs.Ytkiciojipiakoaa
set_option linter.unusedVariables false
set_option linter.unusedSimpArgs false
set_option linter.unusedSectionVars false
open Go.RowKit
structure Lab where
  id : Int
  unit : Int
  name : ByteArray
  note : ByteArray
  ext : List (Int × Int)
instance : Inhabited Lab := ⟨⟨0, 0, ⟨#[]⟩, ⟨#[]⟩, []⟩⟩
def labZ : Lab := ⟨0, 0, ⟨#[]⟩, ⟨#[]⟩, []⟩
/-- A label in memory: its extents lie in the slice A of capacity c. -/
structure LabAt (w : World) (A : Option Addr) (c : Nat) (l : Lab) : Prop where
  id0 : -9223372036854775808 ≤ l.id
  id1 : l.id ≤ 9223372036854775807
  unit0 : -9223372036854775808 ≤ l.unit
  unit1 : l.unit ≤ 9223372036854775807
  name : l.name.size ≤ 9223372036854775807
  note : l.note.size ≤ 9223372036854775807
  runs : RunsAt w w.heap.size A l.ext
  len : l.ext.length ≤ c
  cap : c ≤ 9223372036854775807
def labV (A : Option Addr) (c : Nat) (l : Lab) : Value := .agg #[.int .i64 l.id, .int .i64 l.unit, .string l.name, .string l.note, .slice A l.ext.length c]
theorem LabAt.hold {w w' : World} {A : Option Addr} {c : Nat} {l : Lab} (h : LabAt w A c l) (hg : Grew w w') : LabAt w' A c l :=
  ⟨h.id0, h.id1, h.unit0, h.unit1, h.name, h.note, ⟨h.runs.1, (ListAt.keep h.runs.2 (Nat.le_refl _) hg).mono hg.size⟩, h.len, h.cap⟩
theorem LabAt.zero (w : World) : LabAt w none 0 labZ := ⟨by decide, by decide, by decide, by decide, by decide, by decide, ⟨by simp [labZ], fun h => by simp [labZ] at h⟩, by simp [labZ], by omega⟩
def fewL (l : Lab) : Bool := decide (l.name.size ≤ 100) && decide (l.note.size ≤ 500) && decide (l.ext.length ≤ 30)
def eqL (a b : Lab) : Bool := (a.id == b.id) && ((a.unit == b.unit) && ((a.name.toList == b.name.toList) && ((a.note.toList == b.note.toList) && decide (a.ext = b.ext))))
set_option maxRecDepth 100000 in
set_option maxHeartbeats 1000000 in
theorem few_any (A : Option Addr) (c : Nat) (l : Lab) (w : World) (h : LabAt w A c l) :
    Calls Try.prog 11 #[.agg #[.int .i64 l.id, .int .i64 l.unit, .string l.name, .string l.note, .slice A l.ext.length c]] w fun e w' => e = .returned (.bool (fewL l)) ∧ Grew w w' := by
  have h1 := h.name
  have h2 := h.note
  have h3 := h.len
  have h4 := h.cap
  obtain ⟨id, unit, name, note, ext⟩ := l
  simp only at h1 h2 h3 h4
  have HF := Lib.hid (show fewL ⟨id, unit, name, note, ext⟩ = (decide (name.size ≤ 100) && decide (note.size ≤ 500) && decide (ext.length ≤ 30)) from rfl)
  clear h
  generalize ext.length = n at *
  by_cases b1 : name.size ≤ 100
  · by_cases b2 : note.size ≤ 500
    · by_cases b3 : n ≤ 30
      · have b3i : (n : Int) ≤ 30 := by omega
        have HE := Lib.hid (show fewL ⟨id, unit, name, note, ext⟩ = true from HF.out.trans (by simp [b1, b2, b3]))
        clear HF
        go_enter Try.func11, Try.ntmps11
        go_wp2
        go_ret
        exact ⟨ret_bool (by rw [HE.out]), by (repeat' first | (with_reducible exact Grew.refl _) | (with_reducible assumption) | (with_reducible refine Grew.alloc ?_ _) | (with_reducible refine Grew.drew ?_) | (with_reducible refine Grew.drewN ?_ _) | (with_reducible refine Grew.setRow ?_ (by first | (simp; done) | (simp; omega) | omega) _) | (with_reducible refine Grew.setCell ?_ (by first | (simp; done) | (simp; omega) | omega) _) | ((with_reducible apply Grew.trans); rotate_left; (with_reducible assumption)) | ((with_reducible apply Grew.turn); rotate_left; (with_reducible assumption); (focus (intro i hi; first | omega | (simp at hi; omega)))) | fail)⟩
      · have b3i : ¬ (n : Int) ≤ 30 := by omega
        have HE := Lib.hid (show fewL ⟨id, unit, name, note, ext⟩ = false from HF.out.trans (by simp [b1, b2, b3]))
        clear HF
        go_enter Try.func11, Try.ntmps11
        go_wp2
        go_ret
        exact ⟨ret_bool (by rw [HE.out]), by (repeat' first | (with_reducible exact Grew.refl _) | (with_reducible assumption) | (with_reducible refine Grew.alloc ?_ _) | (with_reducible refine Grew.drew ?_) | (with_reducible refine Grew.drewN ?_ _) | (with_reducible refine Grew.setRow ?_ (by first | (simp; done) | (simp; omega) | omega) _) | (with_reducible refine Grew.setCell ?_ (by first | (simp; done) | (simp; omega) | omega) _) | ((with_reducible apply Grew.trans); rotate_left; (with_reducible assumption)) | ((with_reducible apply Grew.turn); rotate_left; (with_reducible assumption); (focus (intro i hi; first | omega | (simp at hi; omega)))) | fail)⟩
    · have b3 := b2
      have HE := Lib.hid (show fewL ⟨id, unit, name, note, ext⟩ = false from HF.out.trans (by simp [b1, b2, b3]))
      clear HF
      go_enter Try.func11, Try.ntmps11
      go_wp2
      go_ret
      exact ⟨ret_bool (by rw [HE.out]), by (repeat' first | (with_reducible exact Grew.refl _) | (with_reducible assumption) | (with_reducible refine Grew.alloc ?_ _) | (with_reducible refine Grew.drew ?_) | (with_reducible refine Grew.drewN ?_ _) | (with_reducible refine Grew.setRow ?_ (by first | (simp; done) | (simp; omega) | omega) _) | (with_reducible refine Grew.setCell ?_ (by first | (simp; done) | (simp; omega) | omega) _) | ((with_reducible apply Grew.trans); rotate_left; (with_reducible assumption)) | ((with_reducible apply Grew.turn); rotate_left; (with_reducible assumption); (focus (intro i hi; first | omega | (simp at hi; omega)))) | fail)⟩
  · have b3 := b1
    have b2 := b1
    have HE := Lib.hid (show fewL ⟨id, unit, name, note, ext⟩ = false from HF.out.trans (by simp [b1, b2, b3]))
    clear HF
    go_enter Try.func11, Try.ntmps11
    go_wp2
    go_ret
    exact ⟨ret_bool (by rw [HE.out]), by (repeat' first | (with_reducible exact Grew.refl _) | (with_reducible assumption) | (with_reducible refine Grew.alloc ?_ _) | (with_reducible refine Grew.drew ?_) | (with_reducible refine Grew.drewN ?_ _) | (with_reducible refine Grew.setRow ?_ (by first | (simp; done) | (simp; omega) | omega) _) | (with_reducible refine Grew.setCell ?_ (by first | (simp; done) | (simp; omega) | omega) _) | ((with_reducible apply Grew.trans); rotate_left; (with_reducible assumption)) | ((with_reducible apply Grew.turn); rotate_left; (with_reducible assumption); (focus (intro i hi; first | omega | (simp at hi; omega)))) | fail)⟩
set_option maxRecDepth 100000 in
set_option maxHeartbeats 1000000 in
theorem lequal_any (A B : Option Addr) (c d : Nat) (a b : Lab) (w : World) (ha : LabAt w A c a) (hb : LabAt w B d b) (hla : a.ext.length ≤ 100000) (hlb : b.ext.length ≤ 100000) :
    Calls Try.prog 14 #[.agg #[.int .i64 a.id, .int .i64 a.unit, .string a.name, .string a.note, .slice A a.ext.length c], .agg #[.int .i64 b.id, .int .i64 b.unit, .string b.name, .string b.note, .slice B b.ext.length d]] w fun e w' => e = .returned (.bool (eqL a b)) ∧ Grew w w' := by
  obtain ⟨i1, u1, n1, t1, e1⟩ := a
  obtain ⟨i2, u2, n2, t2, e2⟩ := b
  have ra := ha.runs
  have rb := hb.runs
  simp only at ra rb hla hlb
  have ga := ((Grew.refl w).alloc (.cells #[.int .i64 i1, .int .i64 u1, .string n1, .string t1, .slice A e1.length c] 24)).alloc (.cells #[.int .i64 i2, .int .i64 u2, .string n2, .string t2, .slice B e2.length d] 24)
  have HC := Lib.hid (equal_any A B c d e1 e2 _ w.heap.size ga.size (by omega) (by omega) (ra.keep (Nat.le_refl _) ga) (rb.keep (Nat.le_refl _) ga))
  have HE := Lib.hid (show eqL ⟨i1, u1, n1, t1, e1⟩ ⟨i2, u2, n2, t2, e2⟩ = ((i1 == i2) && ((u1 == u2) && ((n1.toList == n2.toList) && ((t1.toList == t2.toList) && decide (e1 = e2))))) from rfl)
  have HG := Lib.hid ga
  clear ha hb ra rb ga
  cases b1 : (i1 == i2) with
  | false =>
    have HB := Lib.hid b1
    go_enter Try.func14, Try.ntmps14
    go_wp2_with fail
    go_ret
    exact ⟨ret_bool (by rw [HE.out, HB.out]; rfl), HG.out⟩
  | true =>
    have HB1 := Lib.hid b1
    cases b2 : (u1 == u2) with
    | false =>
      have HB := Lib.hid b2
      go_enter Try.func14, Try.ntmps14
      go_wp2_with fail
      go_ret
      exact ⟨ret_bool (by rw [HE.out, HB1.out, HB.out]; rfl), HG.out⟩
    | true =>
      have HB2 := Lib.hid b2
      cases b3 : (n1.toList == n2.toList) with
      | false =>
        have HB := Lib.hid b3
        go_enter Try.func14, Try.ntmps14
        go_wp2_with fail
        go_ret
        exact ⟨ret_bool (by rw [HE.out, HB1.out, HB2.out, HB.out]; rfl), HG.out⟩
      | true =>
        have HB3 := Lib.hid b3
        cases b4 : (t1.toList == t2.toList) with
        | false =>
          have HB := Lib.hid b4
          go_enter Try.func14, Try.ntmps14
          go_wp2_with fail
          go_ret
          exact ⟨ret_bool (by rw [HE.out, HB1.out, HB2.out, HB3.out, HB.out]; rfl), HG.out⟩
        | true =>
          have HB := Lib.hid b4
          go_enter Try.func14, Try.ntmps14
          go_wp2_with fail
          refine HC.out.mono ?_
          rintro e w1 ⟨rfl, g1⟩
          go_wp2_with fail
          go_ret
          exact ⟨ret_bool (by rw [HE.out, HB1.out, HB2.out, HB3.out, HB.out]; simp), HG.out.trans g1⟩
set_option maxRecDepth 100000 in
set_option maxHeartbeats 1000000 in
theorem requal_any (A B : Option Addr) (c d : Nat) (a b : Lab) (w : World) (ha : LabAt w A c a) (hb : LabAt w B d b) (hla : a.ext.length ≤ 100000) (hlb : b.ext.length ≤ 100000) :
    Calls Try.prog 15 #[.agg #[.int .i64 a.id, .int .i64 a.unit, .string a.name, .string a.note, .slice A a.ext.length c], .agg #[.int .i64 b.id, .int .i64 b.unit, .string b.name, .string b.note, .slice B b.ext.length d]] w fun e w' => e = .returned (.bool (eqL a b)) ∧ Grew w w' := by
  obtain ⟨i1, u1, n1, t1, e1⟩ := a
  obtain ⟨i2, u2, n2, t2, e2⟩ := b
  have ra := ha.runs
  have rb := hb.runs
  simp only at ra rb hla hlb
  have ga := ((Grew.refl w).alloc (.cells #[.int .i64 i1, .int .i64 u1, .string n1, .string t1, .slice A e1.length c] 24)).alloc (.cells #[.int .i64 i2, .int .i64 u2, .string n2, .string t2, .slice B e2.length d] 24)
  have HC := Lib.hid (same_any A B c d e1 e2 _ w.heap.size ga.size (by omega) (by omega) (ra.keep (Nat.le_refl _) ga) (rb.keep (Nat.le_refl _) ga))
  have HE := Lib.hid (show eqL ⟨i1, u1, n1, t1, e1⟩ ⟨i2, u2, n2, t2, e2⟩ = ((i1 == i2) && ((u1 == u2) && ((n1.toList == n2.toList) && ((t1.toList == t2.toList) && decide (e1 = e2))))) from rfl)
  have HG := Lib.hid ga
  clear ha hb ra rb ga
  cases b1 : (i1 == i2) with
  | false =>
    have HB := Lib.hid b1
    go_enter Try.func15, Try.ntmps15
    go_wp2_with fail
    go_ret
    exact ⟨ret_bool (by rw [HE.out, HB.out]; rfl), HG.out⟩
  | true =>
    have HB1 := Lib.hid b1
    cases b2 : (u1 == u2) with
    | false =>
      have HB := Lib.hid b2
      go_enter Try.func15, Try.ntmps15
      go_wp2_with fail
      go_ret
      exact ⟨ret_bool (by rw [HE.out, HB1.out, HB.out]; rfl), HG.out⟩
    | true =>
      have HB2 := Lib.hid b2
      cases b3 : (n1.toList == n2.toList) with
      | false =>
        have HB := Lib.hid b3
        go_enter Try.func15, Try.ntmps15
        go_wp2_with fail
        go_ret
        exact ⟨ret_bool (by rw [HE.out, HB1.out, HB2.out, HB.out]; rfl), HG.out⟩
      | true =>
        have HB3 := Lib.hid b3
        cases b4 : (t1.toList == t2.toList) with
        | false =>
          have HB := Lib.hid b4
          go_enter Try.func15, Try.ntmps15
          go_wp2_with fail
          go_ret
          exact ⟨ret_bool (by rw [HE.out, HB1.out, HB2.out, HB3.out, HB.out]; rfl), HG.out⟩
        | true =>
          have HB := Lib.hid b4
          go_enter Try.func15, Try.ntmps15
          go_wp2_with fail
          refine HC.out.mono ?_
          rintro e w1 ⟨rfl, g1⟩
          go_wp2_with fail
          go_ret
          exact ⟨ret_bool (by rw [HE.out, HB1.out, HB2.out, HB3.out, HB.out]; simp), HG.out.trans g1⟩
end Go.Proofs.Ytkiciojipiakoaa
