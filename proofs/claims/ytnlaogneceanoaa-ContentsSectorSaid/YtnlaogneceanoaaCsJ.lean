/- Chapter 8: ContentsSector. Chapter 8: a table as an argument; Few. slices.SortFunc, laid at this program (written by lay.py out of the kit's own command). Chapter 8: the references of a table: their comparison, the sort by it. Chapter 8: Refs. Chapter 8, plain: what Confirm does to the labels of a valid table. -/
import Derived.Shelf.SlSortCmp.WholeK
import Derived.Shelf.SlSortCmp.NoneTotal
import Derived.Test.YtnlaogneceanoaaCsA
import Derived.Test.YtnlaogneceanoaaCsC
import Derived.Test.YtnlaogneceanoaaCsD
import Derived.Test.YtnlaogneceanoaaCsH
import Derived.Test.YtnlaogneceanoaaCsI
namespace Go.Proofs.Ytnlaogneceanoaa
set_option linter.unusedVariables false
set_option linter.unusedSimpArgs false
set_option linter.unusedSectionVars false
open Go.RowKit
theorem fewL_facts {l : Lab} (h : fewL l = true) : l.name.size ≤ 100 ∧ l.note.size ≤ 500 ∧ l.ext.length ≤ 30 := by
  unfold fewL at h
  simp only [Bool.and_eq_true, decide_eq_true_eq] at h
  exact ⟨h.1.1, h.1.2, h.2⟩
theorem neq_self (a : Int) : (a != a) = false := by simp
theorem nodup_idx {l : List Nat} (h : l.Nodup) {i j k : Nat} (hi : l[i]? = some k) (hj : l[j]? = some k) : i = j := by
  obtain ⟨hi1, e1⟩ := List.getElem?_eq_some_iff.1 hi
  obtain ⟨hj1, e2⟩ := List.getElem?_eq_some_iff.1 hj
  exact (List.getElem_inj h).1 (e1.trans e2.symm)
set_option maxRecDepth 100000 in
set_option maxHeartbeats 8000000 in
theorem contentsSector_any (A : Option Addr) (c : Nat) (l : Lab) (s o : Int) (s0 : -9223372036854775808 ≤ s) (s1 : s ≤ 9223372036854775807) (o0 : -9223372036854775808 ≤ o) (o1 : o ≤ 9223372036854775807) (w : World) (hl : LabAt w A c l) :
    Calls Try.prog 3 #[.agg #[.int .i64 l.id, .int .i64 l.unit, .string l.name, .string l.note, .slice A l.ext.length c], .int .i64 s, .int .i64 o] w fun e w' => e = .returned (.bool true) ∧ Grew w w' := by
  have hg0 := (Grew.refl w).alloc (.cells #[.int .i64 l.id, .int .i64 l.unit, .string l.name, .string l.note, .slice A l.ext.length c] 24)
  have hb0 := Blk.new w 24 #[.int .i64 l.id, .int .i64 l.unit, .string l.name, .string l.note, .slice A l.ext.length c] rfl
  have HL := Lib.hid hl
  have HFW := Lib.hid (fun w1 (hg : Grew w w1) => few_any A c l w1 (hl.hold hg))
  have HG0 := Lib.hid hg0
  have HB0 := Lib.hid hb0
  clear hl hg0 hb0
  cases hf : fewL l with
  | false =>
    have HF := Lib.hid hf
    clear hf
    go_enter Try.func3, Try.ntmps3
    go_wp2_with fail
    refine (awake_con _).mono ?_
    rintro e w1 ⟨rfl, g1⟩
    have hb1 := HB0.out.grew g1
    have x0 := hb1.cell 0
    have x1 := hb1.cell 1
    have x2 := hb1.cell 2
    have x3 := hb1.cell 3
    have x4 := hb1.cell 4
    have hbl := hb1.lt
    have HG1 := Lib.hid (HG0.out.trans g1)
    clear hb1 g1
    go_wp2_with fail
    refine (HFW.out _ HG1.out).mono ?_
    rintro e w2 ⟨rfl, g2⟩
    rw [HF.out]
    go_wp2_with fail
    refine (awake_con _).mono ?_
    rintro e w3 ⟨rfl, g3⟩
    go_wp2_with fail
    go_ret
    exact ⟨rfl, (HG1.out.trans g2).trans g3⟩
  | true =>
    obtain ⟨_, _, hx⟩ := fewL_facts hf
    have HF := Lib.hid hf
    obtain ⟨⟨a, ok⟩, hA⟩ : ∃ p, sectorS l.ext s = p := ⟨_, rfl⟩
    obtain ⟨⟨b, there⟩, hB⟩ : ∃ p, sectorS l.ext o = p := ⟨_, rfl⟩
    have HA := Lib.hid (fun w1 (hg : Grew w w1) => sector_lab A c l w1 (HL.out.hold hg) (by omega) s s0 s1 a ok hA)
    have HR := Lib.hid (fun w1 (hg : Grew w w1) => rsector_lab A c l w1 (HL.out.hold hg) (by omega) s s0 s1 a ok hA)
    have HB := Lib.hid (fun w1 (hg : Grew w w1) => sector_lab A c l w1 (HL.out.hold hg) (by omega) o o0 o1 b there hB)
    have hn1 := neq_self a
    have hn2 : (ok != ok) = false := by cases ok <;> rfl
    have HDJ := Lib.hid (fun w1 (hg : Grew w w1) d hd => disjoint_val (A := A) (c := c) (w := w1) rfl (by omega) (HL.out.hold hg).runs d hd)
    have HCT := Lib.hid (fun w1 (hg : Grew w w1) t t0 t1 d hd => contains_val (A := A) (c := c) (w := w1) (l := l.ext) rfl (by omega) (HL.out.hold hg).runs t t0 t1 d hd)
    clear hf
    have key : ok = true → there = true → (s == o) = false → decide (seqS l.ext).Nodup = true → ∃ k : Nat, k < 128 ∧ a = (k : Int) * 8 + s % 8 ∧ inT l.ext (k : Int) = true ∧ (a != b) = true ∧ 0 ≤ s := by
      intro h1 h2 h3 h4
      have hs0 : 0 ≤ s := by
        rcases Int.lt_or_le s 0 with h | h
        · rw [sectorS_neg _ _ h] at hA; injection hA with _ e; rw [h1] at e; cases e
        · exact h
      have ho0 : 0 ≤ o := by
        rcases Int.lt_or_le o 0 with h | h
        · rw [sectorS_neg _ _ h] at hB; injection hB with _ e; rw [h2] at e; cases e
        · exact h
      rcases sectorS_cases l.ext s hs0 with ⟨_, hx1⟩ | ⟨k, _, k2, k3, k4, hx1⟩
      · rw [hx1] at hA; injection hA with _ e; rw [h1] at e; cases e
      rcases sectorS_cases l.ext o ho0 with ⟨_, hx2⟩ | ⟨j, _, j2, j3, j4, hx2⟩
      · rw [hx2] at hB; injection hB with _ e; rw [h2] at e; cases e
      rw [hx1] at hA
      rw [hx2] at hB
      injection hA with hA _
      injection hB with hB _
      refine ⟨k, k2, hA.symm, k3, ?_, hs0⟩
      rw [bne_iff_ne]
      intro hab
      have hso : s ≠ o := by simpa using h3
      have hkj : k = j := by omega
      subst hkj
      have := nodup_idx (of_decide_eq_true h4) k4 j4
      omega
    have HK := Lib.hid key
    clear key hA hB
    have pre : ∀ (P : Prop), P → P := fun _ h => h
    clear pre
    cases ok with
    | false =>
      go_enter Try.func3, Try.ntmps3
      go_wp2_with fail
      refine (awake_con _).mono ?_
      rintro e w1 ⟨rfl, g1⟩
      have hb1 := HB0.out.grew g1
      have x0 := hb1.cell 0
      have x1 := hb1.cell 1
      have x2 := hb1.cell 2
      have x3 := hb1.cell 3
      have x4 := hb1.cell 4
      have hbl := hb1.lt
      have HG1 := Lib.hid (HG0.out.trans g1)
      have HB1 := Lib.hid hb1
      clear hb1 g1
      go_wp2_with fail
      refine (HFW.out _ HG1.out).mono ?_
      rintro e w2 ⟨rfl, g2⟩
      rw [HF.out]
      clear x0 x1 x2 x3 x4 hbl
      have hb1 := HB1.out.grew g2
      have x0 := hb1.cell 0
      have x1 := hb1.cell 1
      have x2 := hb1.cell 2
      have x3 := hb1.cell 3
      have x4 := hb1.cell 4
      have hbl := hb1.lt
      have HG2 := Lib.hid (HG1.out.trans g2)
      have HB2 := Lib.hid hb1
      clear hb1 g2
      go_wp2_with fail
      refine (HA.out _ HG2.out).mono ?_
      rintro e w3 ⟨rfl, g3⟩
      clear x0 x1 x2 x3 x4 hbl
      have hb1 := HB2.out.grew g3
      have x0 := hb1.cell 0
      have x1 := hb1.cell 1
      have x2 := hb1.cell 2
      have x3 := hb1.cell 3
      have x4 := hb1.cell 4
      have hbl := hb1.lt
      have HG3 := Lib.hid (HG2.out.trans g3)
      have HB3 := Lib.hid hb1
      clear hb1 g3
      go_wp2_with fail
      refine (HR.out _ HG3.out).mono ?_
      rintro e w4 ⟨rfl, g4⟩
      clear x0 x1 x2 x3 x4 hbl
      have hb1 := HB3.out.grew g4
      have x0 := hb1.cell 0
      have x1 := hb1.cell 1
      have x2 := hb1.cell 2
      have x3 := hb1.cell 3
      have x4 := hb1.cell 4
      have hbl := hb1.lt
      have HG4 := Lib.hid (HG3.out.trans g4)
      have HB4 := Lib.hid hb1
      clear hb1 g4
      go_wp2_with fail
      refine (HB.out _ HG4.out).mono ?_
      rintro e w5 ⟨rfl, g5⟩
      clear x0 x1 x2 x3 x4 hbl
      have hb1 := HB4.out.grew g5
      have x4 := hb1.cell 4
      have hbl := hb1.lt
      have HG5 := Lib.hid (HG4.out.trans g5)
      have HB5 := Lib.hid hb1
      clear hb1 g5
      go_wp2_with fail
      go_ret
      exact ⟨rfl, HG5.out⟩
    | true =>
    cases there with
    | false =>
      go_enter Try.func3, Try.ntmps3
      go_wp2_with fail
      refine (awake_con _).mono ?_
      rintro e w1 ⟨rfl, g1⟩
      have hb1 := HB0.out.grew g1
      have x0 := hb1.cell 0
      have x1 := hb1.cell 1
      have x2 := hb1.cell 2
      have x3 := hb1.cell 3
      have x4 := hb1.cell 4
      have hbl := hb1.lt
      have HG1 := Lib.hid (HG0.out.trans g1)
      have HB1 := Lib.hid hb1
      clear hb1 g1
      go_wp2_with fail
      refine (HFW.out _ HG1.out).mono ?_
      rintro e w2 ⟨rfl, g2⟩
      rw [HF.out]
      clear x0 x1 x2 x3 x4 hbl
      have hb1 := HB1.out.grew g2
      have x0 := hb1.cell 0
      have x1 := hb1.cell 1
      have x2 := hb1.cell 2
      have x3 := hb1.cell 3
      have x4 := hb1.cell 4
      have hbl := hb1.lt
      have HG2 := Lib.hid (HG1.out.trans g2)
      have HB2 := Lib.hid hb1
      clear hb1 g2
      go_wp2_with fail
      refine (HA.out _ HG2.out).mono ?_
      rintro e w3 ⟨rfl, g3⟩
      clear x0 x1 x2 x3 x4 hbl
      have hb1 := HB2.out.grew g3
      have x0 := hb1.cell 0
      have x1 := hb1.cell 1
      have x2 := hb1.cell 2
      have x3 := hb1.cell 3
      have x4 := hb1.cell 4
      have hbl := hb1.lt
      have HG3 := Lib.hid (HG2.out.trans g3)
      have HB3 := Lib.hid hb1
      clear hb1 g3
      go_wp2_with fail
      refine (HR.out _ HG3.out).mono ?_
      rintro e w4 ⟨rfl, g4⟩
      clear x0 x1 x2 x3 x4 hbl
      have hb1 := HB3.out.grew g4
      have x0 := hb1.cell 0
      have x1 := hb1.cell 1
      have x2 := hb1.cell 2
      have x3 := hb1.cell 3
      have x4 := hb1.cell 4
      have hbl := hb1.lt
      have HG4 := Lib.hid (HG3.out.trans g4)
      have HB4 := Lib.hid hb1
      clear hb1 g4
      go_wp2_with fail
      refine (HB.out _ HG4.out).mono ?_
      rintro e w5 ⟨rfl, g5⟩
      clear x0 x1 x2 x3 x4 hbl
      have hb1 := HB4.out.grew g5
      have x4 := hb1.cell 4
      have hbl := hb1.lt
      have HG5 := Lib.hid (HG4.out.trans g5)
      have HB5 := Lib.hid hb1
      clear hb1 g5
      go_wp2_with fail
      go_ret
      exact ⟨rfl, HG5.out⟩
    | true =>
    cases hso : (s == o) with
    | true =>
      go_enter Try.func3, Try.ntmps3
      go_wp2_with fail
      refine (awake_con _).mono ?_
      rintro e w1 ⟨rfl, g1⟩
      have hb1 := HB0.out.grew g1
      have x0 := hb1.cell 0
      have x1 := hb1.cell 1
      have x2 := hb1.cell 2
      have x3 := hb1.cell 3
      have x4 := hb1.cell 4
      have hbl := hb1.lt
      have HG1 := Lib.hid (HG0.out.trans g1)
      have HB1 := Lib.hid hb1
      clear hb1 g1
      go_wp2_with fail
      refine (HFW.out _ HG1.out).mono ?_
      rintro e w2 ⟨rfl, g2⟩
      rw [HF.out]
      clear x0 x1 x2 x3 x4 hbl
      have hb1 := HB1.out.grew g2
      have x0 := hb1.cell 0
      have x1 := hb1.cell 1
      have x2 := hb1.cell 2
      have x3 := hb1.cell 3
      have x4 := hb1.cell 4
      have hbl := hb1.lt
      have HG2 := Lib.hid (HG1.out.trans g2)
      have HB2 := Lib.hid hb1
      clear hb1 g2
      go_wp2_with fail
      refine (HA.out _ HG2.out).mono ?_
      rintro e w3 ⟨rfl, g3⟩
      clear x0 x1 x2 x3 x4 hbl
      have hb1 := HB2.out.grew g3
      have x0 := hb1.cell 0
      have x1 := hb1.cell 1
      have x2 := hb1.cell 2
      have x3 := hb1.cell 3
      have x4 := hb1.cell 4
      have hbl := hb1.lt
      have HG3 := Lib.hid (HG2.out.trans g3)
      have HB3 := Lib.hid hb1
      clear hb1 g3
      go_wp2_with fail
      refine (HR.out _ HG3.out).mono ?_
      rintro e w4 ⟨rfl, g4⟩
      clear x0 x1 x2 x3 x4 hbl
      have hb1 := HB3.out.grew g4
      have x0 := hb1.cell 0
      have x1 := hb1.cell 1
      have x2 := hb1.cell 2
      have x3 := hb1.cell 3
      have x4 := hb1.cell 4
      have hbl := hb1.lt
      have HG4 := Lib.hid (HG3.out.trans g4)
      have HB4 := Lib.hid hb1
      clear hb1 g4
      go_wp2_with fail
      refine (HB.out _ HG4.out).mono ?_
      rintro e w5 ⟨rfl, g5⟩
      clear x0 x1 x2 x3 x4 hbl
      have hb1 := HB4.out.grew g5
      have x4 := hb1.cell 4
      have hbl := hb1.lt
      have HG5 := Lib.hid (HG4.out.trans g5)
      have HB5 := Lib.hid hb1
      clear hb1 g5
      go_wp2_with fail
      go_ret
      exact ⟨rfl, HG5.out⟩
    | false =>
    obtain ⟨nd, hnd⟩ : ∃ nd, decide (seqS l.ext).Nodup = nd := ⟨_, rfl⟩
    cases nd with
    | false =>
      have HND := Lib.hid hnd
      clear hnd
      go_enter Try.func3, Try.ntmps3
      go_wp2_with fail
      refine (awake_con _).mono ?_
      rintro e w1 ⟨rfl, g1⟩
      have hb1 := HB0.out.grew g1
      have x0 := hb1.cell 0
      have x1 := hb1.cell 1
      have x2 := hb1.cell 2
      have x3 := hb1.cell 3
      have x4 := hb1.cell 4
      have hbl := hb1.lt
      have HG1 := Lib.hid (HG0.out.trans g1)
      have HB1 := Lib.hid hb1
      clear hb1 g1
      go_wp2_with fail
      refine (HFW.out _ HG1.out).mono ?_
      rintro e w2 ⟨rfl, g2⟩
      rw [HF.out]
      clear x0 x1 x2 x3 x4 hbl
      have hb1 := HB1.out.grew g2
      have x0 := hb1.cell 0
      have x1 := hb1.cell 1
      have x2 := hb1.cell 2
      have x3 := hb1.cell 3
      have x4 := hb1.cell 4
      have hbl := hb1.lt
      have HG2 := Lib.hid (HG1.out.trans g2)
      have HB2 := Lib.hid hb1
      clear hb1 g2
      go_wp2_with fail
      refine (HA.out _ HG2.out).mono ?_
      rintro e w3 ⟨rfl, g3⟩
      clear x0 x1 x2 x3 x4 hbl
      have hb1 := HB2.out.grew g3
      have x0 := hb1.cell 0
      have x1 := hb1.cell 1
      have x2 := hb1.cell 2
      have x3 := hb1.cell 3
      have x4 := hb1.cell 4
      have hbl := hb1.lt
      have HG3 := Lib.hid (HG2.out.trans g3)
      have HB3 := Lib.hid hb1
      clear hb1 g3
      go_wp2_with fail
      refine (HR.out _ HG3.out).mono ?_
      rintro e w4 ⟨rfl, g4⟩
      clear x0 x1 x2 x3 x4 hbl
      have hb1 := HB3.out.grew g4
      have x0 := hb1.cell 0
      have x1 := hb1.cell 1
      have x2 := hb1.cell 2
      have x3 := hb1.cell 3
      have x4 := hb1.cell 4
      have hbl := hb1.lt
      have HG4 := Lib.hid (HG3.out.trans g4)
      have HB4 := Lib.hid hb1
      clear hb1 g4
      go_wp2_with fail
      refine (HB.out _ HG4.out).mono ?_
      rintro e w5 ⟨rfl, g5⟩
      clear x0 x1 x2 x3 x4 hbl
      have hb1 := HB4.out.grew g5
      have x4 := hb1.cell 4
      have hbl := hb1.lt
      have HG5 := Lib.hid (HG4.out.trans g5)
      have HB5 := Lib.hid hb1
      clear hb1 g5
      go_wp2_with fail
      refine (HDJ.out _ HG5.out _ HND.out).mono ?_
      rintro e w6 ⟨rfl, g6⟩
      go_wp2_with fail
      go_ret
      exact ⟨rfl, HG5.out.trans g6⟩
    | true =>
      have HND := Lib.hid hnd
      obtain ⟨k, k1, k2, k3, k4, k5⟩ := HK.out rfl rfl hso hnd
      have hmb : 0 ≤ s % 8 ∧ s % 8 < 8 := by omega
      have hdv : a / 8 = (k : Int) := by omega
      have hd : a.tdiv 8 = (k : Int) := by rw [Int.tdiv_eq_ediv_of_nonneg (by omega)]; exact hdv
      have ha0 : 0 ≤ a := by omega
      have HK3 := Lib.hid k3
      have hk0 : (k : Int) < 128 := by omega
      clear hnd k2 k3 hmb
      go_enter Try.func3, Try.ntmps3
      go_wp2_with fail
      refine (awake_con _).mono ?_
      rintro e w1 ⟨rfl, g1⟩
      have hb1 := HB0.out.grew g1
      have x0 := hb1.cell 0
      have x1 := hb1.cell 1
      have x2 := hb1.cell 2
      have x3 := hb1.cell 3
      have x4 := hb1.cell 4
      have hbl := hb1.lt
      have HG1 := Lib.hid (HG0.out.trans g1)
      have HB1 := Lib.hid hb1
      clear hb1 g1
      go_wp2_with fail
      refine (HFW.out _ HG1.out).mono ?_
      rintro e w2 ⟨rfl, g2⟩
      rw [HF.out]
      clear x0 x1 x2 x3 x4 hbl
      have hb1 := HB1.out.grew g2
      have x0 := hb1.cell 0
      have x1 := hb1.cell 1
      have x2 := hb1.cell 2
      have x3 := hb1.cell 3
      have x4 := hb1.cell 4
      have hbl := hb1.lt
      have HG2 := Lib.hid (HG1.out.trans g2)
      have HB2 := Lib.hid hb1
      clear hb1 g2
      go_wp2_with fail
      refine (HA.out _ HG2.out).mono ?_
      rintro e w3 ⟨rfl, g3⟩
      clear x0 x1 x2 x3 x4 hbl
      have hb1 := HB2.out.grew g3
      have x0 := hb1.cell 0
      have x1 := hb1.cell 1
      have x2 := hb1.cell 2
      have x3 := hb1.cell 3
      have x4 := hb1.cell 4
      have hbl := hb1.lt
      have HG3 := Lib.hid (HG2.out.trans g3)
      have HB3 := Lib.hid hb1
      clear hb1 g3
      go_wp2_with fail
      refine (HR.out _ HG3.out).mono ?_
      rintro e w4 ⟨rfl, g4⟩
      clear x0 x1 x2 x3 x4 hbl
      have hb1 := HB3.out.grew g4
      have x0 := hb1.cell 0
      have x1 := hb1.cell 1
      have x2 := hb1.cell 2
      have x3 := hb1.cell 3
      have x4 := hb1.cell 4
      have hbl := hb1.lt
      have HG4 := Lib.hid (HG3.out.trans g4)
      have HB4 := Lib.hid hb1
      clear hb1 g4
      go_wp2_with fail
      refine (HB.out _ HG4.out).mono ?_
      rintro e w5 ⟨rfl, g5⟩
      clear x0 x1 x2 x3 x4 hbl
      have hb1 := HB4.out.grew g5
      have x4 := hb1.cell 4
      have hbl := hb1.lt
      have HG5 := Lib.hid (HG4.out.trans g5)
      have HB5 := Lib.hid hb1
      clear hb1 g5
      go_wp2_with fail
      refine (HDJ.out _ HG5.out _ HND.out).mono ?_
      rintro e w6 ⟨rfl, g6⟩
      clear x4 hbl
      have hb1 := HB5.out.grew g6
      have x4 := hb1.cell 4
      have hbl := hb1.lt
      have HG6 := Lib.hid (HG5.out.trans g6)
      clear hb1 g6
      go_wp2_with fail
      refine (HCT.out _ HG6.out (k : Int) (by omega) (by omega) _ HK3.out).mono ?_
      rintro e w7 ⟨rfl, g7⟩
      go_wp2_with fail
      go_ret
      exact ⟨rfl, HG6.out.trans g7⟩
end Go.Proofs.Ytnlaogneceanoaa
namespace Go.Proofs.Ytnlaogneceanoaa
set_option linter.unusedVariables false
set_option linter.unusedSimpArgs false
set_option linter.unusedSectionVars false
open Go.ChangeShapes Go.WideShapes Go.ChangeAt Go.RowKit Go.Deep
attribute [local go_sem ↓] Go.wp_at_zero Go.wp_at_succ
section
variable {H : Type} {enc : TypeId × Value → H} {w : World}
set_option maxRecDepth 100000 in
theorem open_tabC {n : Nat} {cs : List Value} {y : DataW H × List MemPlace} (hlen : cs.length = 3) (h : DataW.trod enc Try.prog w 0 (fun _ => true) true n 34 cs = some y) :
    ∃ A c, ∃ T : Tab, cs = [.string T.name, .int .i64 T.tracks, .slice A T.labels.length c] ∧ ∃ xs, TabAt w A c xs T := by
  have hf := struct_fields Try.underlying34 (by kernel_rfl) h
  obtain ⟨v0, _, _, e0, f0⟩ := hf 0 _ rfl (by omega)
  obtain ⟨v1, _, _, e1, f1⟩ := hf 1 _ rfl (by omega)
  obtain ⟨v2, _, _, e2, f2⟩ := hf 2 _ rfl (by omega)
  obtain ⟨n0, hn0, _, w0⟩ := DataW.trod_string Try.underlying9 f0
  obtain ⟨n1, hn1, _, w1⟩ := DataW.trod_int Try.underlying3 f1
  obtain ⟨A, c, xs, rfl, h1, h2, h3, h4⟩ := open_listF (α := LabE) (sz := 5) Try.underlying32 (by kernel_rfl) (by omega) labC (fun x => LabAt w x.A x.c x.l) (fun n cs y hlen h => by
      obtain ⟨A, c, l, hcs, hl⟩ := open_labelC hlen h
      exact ⟨⟨A, c, l⟩, hl, hcs⟩) f2
  injection hn0 with hn0 _
  injection hn1 with hn1 _
  subst hn0; subst hn1
  have b1 := wf_i64 w1
  unfold maxLen at w0
  refine ⟨A, c, ⟨n0, n1, xs.map (·.l)⟩, ?_, xs, ⟨h3, h4, h1, h2, rfl, b1.1, b1.2, by simpa using w0⟩⟩
  match cs, hlen with
  | [x0, x1, x2], _ =>
    simp at e0 e1 e2
    rw [e0, e1, e2]
    simp
set_option maxRecDepth 100000 in
theorem open_tab {r : Reach} {b0 : Nat} {v : Value} {d : DataW H} {ps : List MemPlace} (hv : Value.okWide Try.prog w r b0 34 v) (hd : DataW.Trod enc Try.prog w 0 (fun _ => true) true 34 v d ps) :
    ∃ A c, ∃ T : Tab, v = .agg #[.string T.name, .int .i64 T.tracks, .slice A T.labels.length c] ∧ ∃ xs, TabAt w A c xs T := by
  obtain ⟨cs, rfl, hsz⟩ := okWide_struct Try.underlying34 hv
  obtain ⟨fuel, hf⟩ := hd
  obtain ⟨A, c, T, hcs, h⟩ := open_tabC (cs := cs.toList) (by rw [Array.length_toList, hsz]; kernel_rfl) hf
  refine ⟨A, c, T, ?_, h⟩
  congr 1
  exact Array.toList_inj.1 hcs
end
def fewT (T : Tab) : Bool := T.labels.all fewL && (decide (T.name.size ≤ 100) && decide (T.labels.length ≤ 40))
theorem fewT_facts {T : Tab} (h : fewT T = true) : SmallT T ∧ T.name.size ≤ 100 ∧ T.labels.length ≤ 40 ∧ ∀ l ∈ T.labels, fewL l = true := by
  unfold fewT at h
  simp only [Bool.and_eq_true, decide_eq_true_eq, List.all_eq_true] at h
  obtain ⟨h1, h2, h3⟩ := h
  exact ⟨⟨by omega, fun l hl => by have := (fewL_len l (h1 l hl)).2.2; omega⟩, h2, h3, h1⟩
set_option maxRecDepth 100000 in
set_option maxHeartbeats 4000000 in
theorem fewT_any (A : Option Addr) (c : Nat) (xs : List LabE) (T : Tab) (w : World) (h : TabAt w A c xs T) :
    Calls Try.prog 13 #[.agg #[.string T.name, .int .i64 T.tracks, .slice A T.labels.length c]] w fun e w' => e = .returned (.bool (fewT T)) ∧ Grew w w' := by
  have hnm := h.name
  have hll : T.labels.length ≤ 9223372036854775807 := by rw [← h.xlen]; exact Nat.le_trans h.len h.cap
  have hg0 := (Grew.refl w).alloc (.cells #[.string T.name, .int .i64 T.tracks, .slice A T.labels.length c] 34)
  have hb0 := Blk.new w 34 #[.string T.name, .int .i64 T.tracks, .slice A T.labels.length c] rfl
  have HTB := Lib.hid h
  have HFE := Lib.hid (show fewT T = (T.labels.all fewL && (decide (T.name.size ≤ 100) && decide (T.labels.length ≤ 40))) from rfl)
  clear h
  have x2 := hb0.cell 2
  go_enter Try.func13, Try.ntmps13
  go_wp2_with fail
  go_loopg [3] T.labels.length (fun gk i wr => ∃ k : Nat, k ≤ T.labels.length ∧ gk = T.labels.length - k ∧ i = .int .i64 k ∧ (∀ j (hj : j < T.labels.length), j < k → fewL T.labels[j] = true) ∧ Blk wr w.heap.size 34 #[.string T.name, .int .i64 T.tracks, .slice A T.labels.length c] ∧ Grew w wr)
  case atStart => exact ⟨0, by omega, by omega, rfl, fun j _ h => by omega, hb0, hg0⟩
  case round =>
    obtain ⟨k, hk, hgk, rfl, hall, hb, hg⟩ := hrel
    have HGK := Lib.hid hgk
    have HA := Lib.hid hall
    have HG := Lib.hid hg
    have HB := Lib.hid hb
    clear x2
    have x0 := hb.cell 0
    have x2 := hb.cell 2
    have hbl0 := hb.lt
    clear hgk hall hb0 hg0
    by_cases hlt : k < T.labels.length
    · obtain ⟨b, off, B, d, l, rfl, hbl, hxk, hv, hla, c0, c1, c2, c3, c4⟩ := (HTB.out.hold hg).at_ hlt
      have HF := Lib.hid (few_any B d l wr hla)
      have HV := Lib.hid hv
      clear hv hxk hla hb hg
      go_wp2_with fail
      refine HF.out.mono ?_
      rintro e w3 ⟨rfl, g3⟩
      cases hfl : fewL l with
      | false =>
        have HE := Lib.hid (show fewT T = false from by
          rw [HFE.out]
          have : T.labels.all fewL = false := List.all_eq_false.2 ⟨T.labels[k], List.getElem_mem hlt, by rw [HV.out, hfl]; simp⟩
          rw [this]; rfl)
        clear hfl
        go_wp2_with fail
        go_ret
        exact ⟨ret_bool (by rw [HE.out]), HG.out.trans g3⟩
      | true =>
        have HN := Lib.hid (show ∀ j (hj : j < T.labels.length), j < k + 1 → fewL T.labels[j] = true from fun j hj hjk => by
          by_cases hjk' : j = k
          · subst hjk'; rw [HV.out]; exact hfl
          · exact HA.out j hj (by omega))
        have HB3 := Lib.hid (HB.out.grew g3)
        have HG3 := Lib.hid (HG.out.trans g3)
        clear hfl g3
        go_wp2_with fail
        go_roundg (T.labels.length - (k + 1))
        case measure => rw [HGK.out]; omega
        case rel => exact ⟨k + 1, by omega, by omega, by go_num, HN.out, HB3.out, HG3.out⟩
    · have HAL := Lib.hid (show T.labels.all fewL = true from List.all_eq_true.2 (fun l hl => by
        obtain ⟨j, hj, rfl⟩ := List.getElem_of_mem hl
        exact HA.out j hj (by omega)))
      clear hb hg
      by_cases h1 : T.name.size ≤ 100
      · have h1i : (T.name.size : Int) ≤ 100 := by omega
        by_cases h2 : T.labels.length ≤ 40
        · have h2i : (T.labels.length : Int) ≤ 40 := by omega
          have HE := Lib.hid (HFE.out.trans (by rw [HAL.out, decide_eq_true h1, decide_eq_true h2]; rfl) : fewT T = true)
          go_wp2_with fail
          go_ret
          exact ⟨ret_bool (by rw [HE.out]), HG.out⟩
        · have h2i : ¬ (T.labels.length : Int) ≤ 40 := by omega
          have HE := Lib.hid (HFE.out.trans (by rw [HAL.out, decide_eq_true h1, decide_eq_false h2]; rfl) : fewT T = false)
          go_wp2_with fail
          go_ret
          exact ⟨ret_bool (by rw [HE.out]), HG.out⟩
      · have h1i : ¬ (T.name.size : Int) ≤ 100 := by omega
        have HE := Lib.hid (HFE.out.trans (by rw [HAL.out, decide_eq_false h1]; rfl) : fewT T = false)
        go_wp2_with fail
        go_ret
        exact ⟨ret_bool (by rw [HE.out]), HG.out⟩
end Go.Proofs.Ytnlaogneceanoaa
namespace Go.Proofs.Ytnlaogneceanoaa
set_option linter.unusedVariables false
set_option linter.unusedSimpArgs false
set_option linter.unusedSectionVars false
open Go.Shelf Go.RowKit Go.Lib
set_option maxRecDepth 100000
def sortRf_ren : Go.Shelf.Ren := ⟨fun | 6 => 44 | 15 => 83 | 14 => 82 | 28 => 113 | 29 => 114 | 20 => 105 | 21 => 106 | 22 => 107 | 23 => 108 | 24 => 109 | 25 => 110 | 26 => 111 | 27 => 112 | 46 => 121 | 47 => 122 | 48 => 123 | 49 => 124 | 50 => 125 | 57 => 138 | n => n, fun | 22 => 44 | 24 => 37 | 25 => 85 | 3 => 3 | 39 => 115 | 0 => 0 | 53 => 142 | 55 => 124 | 4 => 4 | 46 => 136 | 45 => 135 | 50 => 27 | 5 => 5 | 9 => 9 | 66 => 158 | 70 => 161 | 76 => 173 | 77 => 174 | n => n, fun | n => n⟩
theorem sortRf : Go.Proofs.SlLaysF0.n6 Try.prog sortRf_ren := {
  mixed := by kernel_rfl
  f6 := ⟨Try.f44.name, by decide, Try.func44.trans (congrArg some (by kernel_rfl))⟩
  f14 := ⟨Try.f82.name, by decide, Try.func82.trans (congrArg some (by kernel_rfl))⟩
  f15 := Try.func83.trans (congrArg some (by kernel_rfl))
  f20 := ⟨Try.f105.name, by decide, Try.func105.trans (congrArg some (by kernel_rfl))⟩
  f21 := ⟨Try.f106.name, by decide, Try.func106.trans (congrArg some (by kernel_rfl))⟩
  f22 := ⟨Try.f107.name, by decide, Try.func107.trans (congrArg some (by kernel_rfl))⟩
  f23 := ⟨Try.f108.name, by decide, Try.func108.trans (congrArg some (by kernel_rfl))⟩
  f24 := ⟨Try.f109.name, by decide, Try.func109.trans (congrArg some (by kernel_rfl))⟩
  f25 := ⟨Try.f110.name, by decide, Try.func110.trans (congrArg some (by kernel_rfl))⟩
  f26 := ⟨Try.f111.name, by decide, Try.func111.trans (congrArg some (by kernel_rfl))⟩
  f27 := ⟨Try.f112.name, by decide, Try.func112.trans (congrArg some (by kernel_rfl))⟩
  f28 := Try.func113.trans (congrArg some (by kernel_rfl))
  f29 := Try.func114.trans (congrArg some (by kernel_rfl))
  f46 := ⟨Try.f121.name, by decide, Try.func121.trans (congrArg some (by kernel_rfl))⟩
  f47 := Try.func122.trans (congrArg some (by kernel_rfl))
  f48 := Try.func123.trans (congrArg some (by kernel_rfl))
  f49 := ⟨Try.f124.name, by decide, Try.func124.trans (congrArg some (by kernel_rfl))⟩
  f50 := ⟨Try.f125.name, by decide, Try.func125.trans (congrArg some (by kernel_rfl))⟩
  f57 := ⟨Try.f138.name, by decide, Try.func138.trans (congrArg some (by kernel_rfl))⟩
  t0 := Try.underlying0
  a0 := Try.isAgg0
  z0 := Try.sizeOf0
  v0 := Try.zeroValue0
  t3 := Try.underlying3
  a3 := Try.isAgg3
  z3 := Try.sizeOf3
  v3 := Try.zeroValue3
  t4 := Try.underlying4
  a4 := Try.isAgg4
  z4 := Try.sizeOf4
  v4 := Try.zeroValue4
  t5 := Try.underlying5
  a5 := Try.isAgg5
  z5 := Try.sizeOf5
  v5 := Try.zeroValue5
  t9 := Try.underlying9
  a9 := Try.isAgg9
  z9 := Try.sizeOf9
  v9 := Try.zeroValue9
  t22 := Try.underlying44
  a22 := Try.isAgg44
  z22 := Try.sizeOf44
  v22 := Try.zeroValue44
  t25 := Try.underlying85
  a25 := Try.isAgg85
  z25 := Try.sizeOf85
  v25 := Try.zeroValue85
  t39 := Try.underlying115
  a39 := Try.isAgg115
  z39 := Try.sizeOf115
  v39 := Try.zeroValue115
  t45 := Try.underlying135
  a45 := Try.isAgg135
  z45 := Try.sizeOf135
  v45 := Try.zeroValue135
  t46 := Try.underlying136
  a46 := Try.isAgg136
  z46 := Try.sizeOf136
  v46 := Try.zeroValue136
  t50 := Try.underlying27
  a50 := Try.isAgg27
  z50 := Try.sizeOf27
  v50 := Try.zeroValue27
  t53 := Try.underlying142
  a53 := Try.isAgg142
  z53 := Try.sizeOf142
  v53 := Try.zeroValue142
  t55 := Try.underlying124
  a55 := Try.isAgg124
  z55 := Try.sizeOf124
  v55 := Try.zeroValue124
  t66 := Try.underlying158
  a66 := Try.isAgg158
  z66 := Try.sizeOf158
  v66 := Try.zeroValue158
  t70 := Try.underlying161
  a70 := Try.isAgg161
  z70 := Try.sizeOf161
  v70 := Try.zeroValue161
  t76 := Try.underlying173
  a76 := Try.isAgg173
  z76 := Try.sizeOf173
  v76 := Try.zeroValue173
  t77 := Try.underlying174
  a77 := Try.isAgg174
  z77 := Try.sizeOf174
  v77 := Try.zeroValue174
  }
end Go.Proofs.Ytnlaogneceanoaa
namespace Go.Proofs.Ytnlaogneceanoaa
set_option linter.unusedVariables false
set_option linter.unusedSimpArgs false
set_option linter.unusedSectionVars false
open Go.RowKit Go.Shelf Go.Lib
attribute [local go_sem ↓] Go.wp_at_zero Go.wp_at_succ
def refC (a : Int × Int) : List Value := [.int .i64 a.1, .int .i64 a.2]
def ltP (a b : Int × Int) : Prop := a.1 < b.1 ∨ a.1 = b.1 ∧ a.2 < b.2
instance (a b : Int × Int) : Decidable (ltP a b) := by unfold ltP; exact inferInstance
def cmpC (a b : Int) : Int := if a < b then -1 else if b < a then 1 else 0
def cmpP (x y : Int × Int) : Int := if cmpC x.1 y.1 = 0 then cmpC x.2 y.2 else cmpC x.1 y.1
theorem lt_cmpP (x y : Int × Int) : Go.Proofs.ltOf cmpP x y = true ↔ ltP x y := by
  unfold Go.Proofs.ltOf cmpP cmpC ltP
  rw [decide_eq_true_eq]
  repeat' split
  all_goals omega
theorem swP : Go.Sort.SWO (Go.Proofs.ltOf cmpP) where
  irrefl x := by
    cases h : Go.Proofs.ltOf cmpP x x with
    | false => rfl
    | true => have := (lt_cmpP x x).1 h; unfold ltP at this; omega
  trans x y z h1 h2 := by
    rw [lt_cmpP] at h1 h2 ⊢
    unfold ltP at *
    omega
  ntrans x y z h1 h2 := by
    rw [← Bool.not_eq_true] at h1 h2 ⊢
    rw [lt_cmpP] at h1 h2 ⊢
    unfold ltP at *
    omega
/-- Where a reference is put among others. -/
def insP : List (Int × Int) → Int × Int → List (Int × Int)
  | [], x => [x]
  | y :: l, x => if ltP x y then x :: y :: l else y :: insP l x
def sortP (l : List (Int × Int)) : List (Int × Int) := l.foldl insP []
theorem insP_perm (x : Int × Int) : ∀ l, (insP l x).Perm (x :: l) := by
  intro l
  induction l with
  | nil => exact List.Perm.refl _
  | cons y l ih =>
    unfold insP
    split
    · exact List.Perm.refl _
    · exact (List.Perm.cons y ih).trans (List.Perm.swap x y l)
theorem foldl_perm : ∀ (l acc : List (Int × Int)), (l.foldl insP acc).Perm (acc ++ l) := by
  intro l
  induction l with
  | nil => intro acc; simp
  | cons x l ih =>
    intro acc
    refine (ih _).trans ?_
    refine ((insP_perm x acc).append_right l).trans ?_
    simpa using (List.perm_middle (a := x) (l₁ := acc) (l₂ := l)).symm
theorem sortP_perm (l : List (Int × Int)) : (sortP l).Perm l := by simpa [sortP] using foldl_perm l []
theorem insP_sorted (x : Int × Int) : ∀ l : List (Int × Int), l.Pairwise (fun a b => ¬ ltP b a) → (insP l x).Pairwise (fun a b => ¬ ltP b a) := by
  intro l
  induction l with
  | nil => intro _; exact List.pairwise_singleton _ _
  | cons y l ih =>
    intro h
    obtain ⟨h1, h2⟩ := List.pairwise_cons.1 h
    unfold insP
    split
    · rename_i hxy
      refine List.pairwise_cons.2 ⟨fun z hz => ?_, h⟩
      rcases List.mem_cons.1 hz with rfl | hz
      · unfold ltP at *; omega
      · have := h1 z hz
        unfold ltP at *; omega
    · rename_i hxy
      refine List.pairwise_cons.2 ⟨fun z hz => ?_, ih h2⟩
      rcases List.mem_cons.1 ((insP_perm x l).subset hz) with rfl | hz
      · exact hxy
      · exact h1 z hz
theorem sortP_sorted (l : List (Int × Int)) : (sortP l).Pairwise (fun a b => ¬ ltP b a) := by
  have key : ∀ (l acc : List (Int × Int)), acc.Pairwise (fun a b => ¬ ltP b a) → (l.foldl insP acc).Pairwise (fun a b => ¬ ltP b a) := by
    intro l
    induction l with
    | nil => intro acc h; exact h
    | cons x l ih => intro acc h; exact ih _ (insP_sorted x acc h)
  exact key l [] List.Pairwise.nil
theorem sortedP_one : ∀ (a b : List (Int × Int)), a.Perm b → a.Pairwise (fun a b => ¬ ltP b a) → b.Pairwise (fun a b => ¬ ltP b a) → a = b := by
  intro a
  induction a with
  | nil => intro b hp _ _; exact hp.nil_eq
  | cons x a ih =>
    intro b hp ha hb
    cases b with
    | nil => exact absurd hp.length_eq (by simp)
    | cons y b =>
      have hxy : x = y := by
        have h1 : x ∈ y :: b := hp.subset (List.mem_cons_self ..)
        have h2 : y ∈ x :: a := hp.symm.subset (List.mem_cons_self ..)
        rcases List.mem_cons.1 h1 with h1 | h1
        · exact h1
        · rcases List.mem_cons.1 h2 with h2 | h2
          · exact h2.symm
          · have e1 := (List.pairwise_cons.1 ha).1 y h2
            have e2 := (List.pairwise_cons.1 hb).1 x h1
            obtain ⟨x1, x2⟩ := x
            obtain ⟨y1, y2⟩ := y
            unfold ltP at e1 e2
            simp only at e1 e2
            exact Prod.ext (by simp only; omega) (by simp only; omega)
      subst hxy
      rw [ih b ((List.perm_cons x).1 hp) (List.pairwise_cons.1 ha).2 (List.pairwise_cons.1 hb).2]
theorem sortP_is (l d : List (Int × Int)) (hp : d.Perm l) (hs : ∀ i j (hi : i < d.length) (hj : j < d.length), i < j → ¬ ltP d[j] d[i]) : d = sortP l :=
  sortedP_one _ _ (hp.trans (sortP_perm l).symm) (List.pairwise_iff_getElem.2 hs) (sortP_sorted l)
theorem nan_any (a : Int) (w : World) : Calls Try.prog 84 #[.int .i64 a] w fun e w' => e = .returned (.bool false) ∧ w = w' := by
  go_enter Try.func84, Try.ntmps84
  go_wp2_with fail
  go_ret
  exact ⟨ret_bool (by simp), rfl⟩
set_option maxRecDepth 100000 in
theorem compare_any (a b : Int) (w : World) : Calls Try.prog 47 #[.int .i64 a, .int .i64 b] w fun e w' => e = .returned (.int .i64 (cmpC a b)) ∧ w = w' := by
  by_cases h1 : a < b
  · have HE := Lib.hid (show cmpC a b = -1 from if_pos h1)
    go_enter Try.func47, Try.ntmps47
    go_wp2_with fail
    refine (nan_any _ _).mono ?_
    rintro e w1 ⟨rfl, rfl⟩
    go_wp2_with fail
    refine (nan_any _ _).mono ?_
    rintro e w1 ⟨rfl, rfl⟩
    go_wp2_with fail
    go_ret
    exact ⟨ret_int (by rw [HE.out]), rfl⟩
  · by_cases h2 : b < a
    · have HE := Lib.hid (show cmpC a b = 1 from by unfold cmpC; rw [if_neg h1, if_pos h2])
      go_enter Try.func47, Try.ntmps47
      go_wp2_with fail
      refine (nan_any _ _).mono ?_
      rintro e w1 ⟨rfl, rfl⟩
      go_wp2_with fail
      refine (nan_any _ _).mono ?_
      rintro e w1 ⟨rfl, rfl⟩
      go_wp2_with fail
      go_ret
      exact ⟨ret_int (by rw [HE.out]), rfl⟩
    · have HE := Lib.hid (show cmpC a b = 0 from by unfold cmpC; rw [if_neg h1, if_neg h2])
      go_enter Try.func47, Try.ntmps47
      go_wp2_with fail
      refine (nan_any _ _).mono ?_
      rintro e w1 ⟨rfl, rfl⟩
      go_wp2_with fail
      refine (nan_any _ _).mono ?_
      rintro e w1 ⟨rfl, rfl⟩
      go_wp2_with fail
      go_ret
      exact ⟨ret_int (by rw [HE.out]), rfl⟩
set_option maxRecDepth 100000 in
set_option maxHeartbeats 1000000 in
theorem or_any (a b r : Int) (hr : (if a = 0 then b else a) = r) (g : Nat) (w : World) (hb : Blk w g 3 #[.int .i64 a, .int .i64 b]) : Calls Try.prog 46 #[.slice (some ⟨g, 0, none⟩) 2 2] w fun e w' => e = .returned (.int .i64 r) ∧ w = w' := by
  have HR := Lib.hid hr
  clear hr
  have x0 := hb.cell 0
  have x1 := hb.cell 1
  have hl := hb.lt
  go_enter Try.func46, Try.ntmps46
  go_wp2_with fail
  go_loopg [8] 2 (fun gk i wr => w = wr ∧ ∃ k : Nat, k ≤ 2 ∧ gk = 2 - k ∧ i = .int .i64 k ∧ (1 ≤ k → a = 0) ∧ (2 ≤ k → b = 0))
  case atStart => exact ⟨rfl, 0, by omega, by omega, rfl, fun h => by omega, fun h => by omega⟩
  case round =>
    obtain ⟨rfl, k, hk, hgk, rfl, ha, hb2⟩ := hrel
    have HGK := Lib.hid hgk
    have HA := Lib.hid ha
    have HB := Lib.hid hb2
    clear hgk ha hb2
    have hk3 : k = 0 ∨ k = 1 ∨ k = 2 := by omega
    rcases hk3 with rfl | rfl | rfl
    · cases h1 : (a != 0) with
      | true =>
        have HE := Lib.hid (show r = a from HR.out.symm.trans (if_neg (by simpa using h1)))
        go_wp2_with fail
        go_ret
        exact ⟨ret_int (by rw [HE.out]), rfl⟩
      | false =>
        have ha := Lib.hid (show a = 0 by simpa using h1)
        go_wp2_with fail
        go_roundg 1
        case measure => rw [HGK.out]; omega
        case rel => exact ⟨rfl, 1, by omega, by omega, by go_num, fun _ => ha.out, fun h => by omega⟩
    · cases h1 : (b != 0) with
      | true =>
        have HE := Lib.hid (show r = b from HR.out.symm.trans (if_pos (HA.out (by omega))))
        go_wp2_with fail
        go_ret
        exact ⟨ret_int (by rw [HE.out]), rfl⟩
      | false =>
        have hb := Lib.hid (show b = 0 by simpa using h1)
        go_wp2_with fail
        go_roundg 0
        case measure => rw [HGK.out]; omega
        case rel => exact ⟨rfl, 2, by omega, by omega, by go_num, fun _ => HA.out (by omega), fun _ => hb.out⟩
    · have HE := Lib.hid (show r = 0 from HR.out.symm.trans ((if_pos (HA.out (by omega))).trans (HB.out (by omega))))
      go_wp2_with fail
      go_ret
      exact ⟨ret_int (by rw [HE.out]), rfl⟩
set_option maxRecDepth 100000 in
set_option maxHeartbeats 2000000 in
theorem refs1_any (x y : Int × Int) (W : World) : Calls Try.prog 45 #[.agg (refC x).toArray, .agg (refC y).toArray] W fun e w' => e = .returned (.int .i64 (cmpP x y)) ∧ ∃ q os', w' = Go.Sort.grow (W.drewN q) os' := by
  obtain ⟨x1, x2⟩ := x
  obtain ⟨y1, y2⟩ := y
  show Calls Try.prog 45 #[.agg #[.int .i64 x1, .int .i64 x2], .agg #[.int .i64 y1, .int .i64 y2]] W _
  have HC := Lib.hid (show cmpP (x1, x2) (y1, y2) = if cmpC x1 y1 = 0 then cmpC x2 y2 else cmpC x1 y1 from rfl)
  have hb0 := (Blk.new W 37 #[.int .i64 x1, .int .i64 x2] rfl).alloc (.cells #[.int .i64 y1, .int .i64 y2] 37)
  have hb1 := Blk.new (W.alloc (.cells #[.int .i64 x1, .int .i64 x2] 37)) 37 #[.int .i64 y1, .int .i64 y2] (n := W.heap.size + 1) (by simp)
  have hS : (fun w' : World => w'.cell? ⟨W.heap.size, 0, none⟩ = some (.int .i64 x1) ∧ w'.cell? ⟨W.heap.size, 1, none⟩ = some (.int .i64 x2) ∧ w'.cell? ⟨W.heap.size + 1, 0, none⟩ = some (.int .i64 y1) ∧ w'.cell? ⟨W.heap.size + 1, 1, none⟩ = some (.int .i64 y2)) ((W.alloc (.cells #[.int .i64 x1, .int .i64 x2] 37)).alloc (.cells #[.int .i64 y1, .int .i64 y2] 37)).drew := ⟨hb0.drew.cell 0, hb0.drew.cell 1, hb1.drew.cell 0, hb1.drew.cell 1⟩
  have hbs := (Blk.new ((W.alloc (.cells #[.int .i64 x1, .int .i64 x2] 37)).alloc (.cells #[.int .i64 y1, .int .i64 y2] 37)) 3 #[.int .i64 (cmpC x1 y1), .int .i64 (cmpC x2 y2)] (n := W.heap.size + 1 + 1) (by simp)).drew
  have HCM1 := Lib.hid (fun w => compare_any x1 y1 w)
  have HCM2 := Lib.hid (fun w => compare_any x2 y2 w)
  obtain ⟨r, hr⟩ : ∃ r, cmpP (x1, x2) (y1, y2) = r := ⟨_, rfl⟩
  have HOR := Lib.hid (or_any (cmpC x1 y1) (cmpC x2 y2) r (HC.out.symm.trans hr) _ _ hbs)
  rw [hr]
  generalize cmpC x1 y1 = q1 at *
  generalize cmpC x2 y2 = q2 at *
  clear hr
  clear hb0 hb1 hbs
  go_enter Try.func45, Try.ntmps45
  go_wp2_with fail
  refine wp_region_R [10] (fun w' : World => w'.cell? ⟨W.heap.size, 0, none⟩ = some (.int .i64 x1) ∧ w'.cell? ⟨W.heap.size, 1, none⟩ = some (.int .i64 x2) ∧ w'.cell? ⟨W.heap.size + 1, 0, none⟩ = some (.int .i64 y1) ∧ w'.cell? ⟨W.heap.size + 1, 1, none⟩ = some (.int .i64 y2)) (by kernel_rfl) ?_
  refine wpAnyR_takeQ (i := 0) (v := ?_) (some 5) rfl rfl (by kernel_rfl) (by kernel_rfl) (by kernel_rfl) (by kernel_rfl) (fun _ _ _ h => h) (Or.inl ⟨by rfl, ?_⟩) ?_
  rotate_left
  focus (intro wS hSw; (try dsimp only at hSw); go_simp; (try with_reducible rfl); (try (first | (rw [if_pos (by omega)]; (try go_simp); (try with_reducible rfl)) | (rw [if_neg (by omega)]; (try go_simp); (try with_reducible rfl)))))
  try simp only [Act.put, List.setIfInBounds_toArray, List.set_cons_zero, List.set_cons_succ]
  refine wpAnyR_take (i := 1) (v := ?_) [4, 9, 10, 11, 12] (some 6) rfl rfl (by kernel_rfl) (by kernel_rfl) (by kernel_rfl) (by kernel_rfl) (by kernel_rfl) (by kernel_rfl) (by kernel_rfl) (fun _ _ _ h => h) (Or.inl ⟨by rfl, ?_⟩) hS ?_
  rotate_left
  focus (intro wS hSw; (try dsimp only at hSw); go_simp; (try with_reducible rfl); (try (first | (rw [if_pos (by omega)]; (try go_simp); (try with_reducible rfl)) | (rw [if_neg (by omega)]; (try go_simp); (try with_reducible rfl)))))
  try simp only [Act.put, List.setIfInBounds_toArray, List.set_cons_zero, List.set_cons_succ]
  refine wpAnyR_takeQ (i := 2) (v := ?_) (some 7) rfl rfl (by kernel_rfl) (by kernel_rfl) (by kernel_rfl) (by kernel_rfl) (fun _ _ _ h => h) (Or.inl ⟨by rfl, ?_⟩) ?_
  rotate_left
  focus (intro wS hSw; (try dsimp only at hSw); go_simp; (try with_reducible rfl); (try (first | (rw [if_pos (by omega)]; (try go_simp); (try with_reducible rfl)) | (rw [if_neg (by omega)]; (try go_simp); (try with_reducible rfl)))))
  try simp only [Act.put, List.setIfInBounds_toArray, List.set_cons_zero, List.set_cons_succ]
  refine wpAnyR_take (i := 3) (v := ?_) [4, 9, 10, 11, 12] (some 8) rfl rfl (by kernel_rfl) (by kernel_rfl) (by kernel_rfl) (by kernel_rfl) (by kernel_rfl) (by kernel_rfl) (by kernel_rfl) (fun _ _ _ h => h) (Or.inl ⟨by rfl, ?_⟩) hS ?_
  rotate_left
  focus (intro wS hSw; (try dsimp only at hSw); go_simp; (try with_reducible rfl); (try (first | (rw [if_pos (by omega)]; (try go_simp); (try with_reducible rfl)) | (rw [if_neg (by omega)]; (try go_simp); (try with_reducible rfl)))))
  try simp only [Act.put, List.setIfInBounds_toArray, List.set_cons_zero, List.set_cons_succ]
  refine wpAnyR_takeQ (i := 5) (v := ?_) (some 10) rfl rfl (by kernel_rfl) (by kernel_rfl) (by kernel_rfl) (by kernel_rfl) (fun _ _ _ h => h) (Or.inl ⟨by rfl, ?_⟩) ?_
  rotate_left
  focus (intro wS hSw; (try dsimp only at hSw); go_simp; (try with_reducible rfl); (try (first | (rw [if_pos (by omega)]; (try go_simp); (try with_reducible rfl)) | (rw [if_neg (by omega)]; (try go_simp); (try with_reducible rfl)))))
  try simp only [Act.put, List.setIfInBounds_toArray, List.set_cons_zero, List.set_cons_succ]
  refine wpAnyR_take (i := 6) (v := ?_) [9, 10, 11, 12] (some 11) rfl rfl (by kernel_rfl) (by kernel_rfl) (by kernel_rfl) (by kernel_rfl) (by kernel_rfl) (by kernel_rfl) (by kernel_rfl) (fun _ _ _ h => h) (Or.inl ⟨by rfl, ?_⟩) hS ?_
  rotate_left
  focus (intro wS hSw; (try dsimp only at hSw); go_simp; (try with_reducible rfl); (try (first | (rw [if_pos (by omega)]; (try go_simp); (try with_reducible rfl)) | (rw [if_neg (by omega)]; (try go_simp); (try with_reducible rfl)))))
  try simp only [Act.put, List.setIfInBounds_toArray, List.set_cons_zero, List.set_cons_succ]
  refine wpAnyR_takeQ (i := 7) (v := ?_) (some 12) rfl rfl (by kernel_rfl) (by kernel_rfl) (by kernel_rfl) (by kernel_rfl) (fun _ _ _ h => h) (Or.inl ⟨by rfl, ?_⟩) ?_
  rotate_left
  focus (intro wS hSw; (try dsimp only at hSw); go_simp; (try with_reducible rfl); (try (first | (rw [if_pos (by omega)]; (try go_simp); (try with_reducible rfl)) | (rw [if_neg (by omega)]; (try go_simp); (try with_reducible rfl)))))
  try simp only [Act.put, List.setIfInBounds_toArray, List.set_cons_zero, List.set_cons_succ]
  refine wpAnyR_take (i := 8) (v := ?_) [9, 10, 11, 12] (some 13) rfl rfl (by kernel_rfl) (by kernel_rfl) (by kernel_rfl) (by kernel_rfl) (by kernel_rfl) (by kernel_rfl) (by kernel_rfl) (fun _ _ _ h => h) (Or.inl ⟨by rfl, ?_⟩) hS ?_
  rotate_left
  focus (intro wS hSw; (try dsimp only at hSw); go_simp; (try with_reducible rfl); (try (first | (rw [if_pos (by omega)]; (try go_simp); (try with_reducible rfl)) | (rw [if_neg (by omega)]; (try go_simp); (try with_reducible rfl)))))
  try simp only [Act.put, List.setIfInBounds_toArray, List.set_cons_zero, List.set_cons_succ]
  refine wpAnyR_n1 (i := 4) rfl (by kernel_rfl) ?_
  intro K' hK
  rw [if_pos (by rfl)]
  simp only [List.getElem_toArray, List.getElem_cons_succ, List.getElem_cons_zero]
  go_wp2_with fail
  refine (HCM1.out _).mono ?_
  rintro e w1 ⟨rfl, rfl⟩
  go_wp2_with fail
  refine hK.out _ _ (.inr (fun h => h)) ?_
  clear hK
  refine wpAnyR_n1 (i := 9) rfl (by kernel_rfl) ?_
  intro K' hK
  rw [if_pos (by rfl)]
  simp only [List.getElem_toArray, List.getElem_cons_succ, List.getElem_cons_zero]
  go_wp2_with fail
  refine (HCM2.out _).mono ?_
  rintro e w1 ⟨rfl, rfl⟩
  go_wp2_with fail
  refine hK.out _ _ (.inr (fun h => h)) ?_
  clear hK
  refine wpAnyR_n1 (i := 10) rfl (by kernel_rfl) ?_
  intro K' hK
  rw [if_pos (by rfl)]
  simp only [List.getElem_toArray, List.getElem_cons_succ, List.getElem_cons_zero]
  go_wp2_with fail
  refine hK.out _ _ (.inl rfl) ?_
  clear hK
  refine wpAnyR_n1 (i := 11) rfl (by kernel_rfl) ?_
  intro K' hK
  rw [if_pos (by rfl)]
  simp only [List.getElem_toArray, List.getElem_cons_succ, List.getElem_cons_zero]
  go_wp2_with fail
  refine HOR.out.mono ?_
  rintro e w1 ⟨rfl, rfl⟩
  go_wp2_with fail
  refine hK.out _ _ (.inr (fun h => h)) ?_
  clear hK
  refine wpAnyR_takeQ (i := 12) (v := ?_) (some 4) rfl rfl (by kernel_rfl) (by kernel_rfl) (by kernel_rfl) (by kernel_rfl) (fun _ _ _ h => h) (Or.inl ⟨by rfl, ?_⟩) ?_
  rotate_left
  focus (intro wS hSw; (try dsimp only at hSw); go_simp; (try with_reducible rfl); (try (first | (rw [if_pos (by omega)]; (try go_simp); (try with_reducible rfl)) | (rw [if_neg (by omega)]; (try go_simp); (try with_reducible rfl)))))
  try simp only [Act.put, List.setIfInBounds_toArray, List.set_cons_zero, List.set_cons_succ]
  refine wpAnyR_done (by kernel_rfl) ?_ _
  go_wp2_with fail
  go_ret
  exact ⟨rfl, 1, _, by rw [Go.Sort.alloc_eq_grow, Go.Sort.alloc_eq_grow, Go.Sort.alloc_eq_grow, Go.Sort.grow_grow, Go.Sort.grow_grow]; rfl⟩
end Go.Proofs.Ytnlaogneceanoaa
namespace Go.Proofs.Ytnlaogneceanoaa
set_option linter.unusedVariables false
set_option linter.unusedSimpArgs false
set_option linter.unusedSectionVars false
open Go.RowKit Go.Shelf Go.Lib
attribute [local go_sem ↓] Go.wp_at_zero Go.wp_at_succ
theorem rsorted_turned (w : World) (g m : Nat) (d : Array (Int × Int)) (os : Array Obj) : Turned (fun i => i = g) w (Go.Proofs.sortWorldK refC 2 w g 0 m d os) := by
  refine ⟨rfl, rfl, rfl, ?_, fun k hk hs => ?_⟩
  · exact Go.Proofs.size_sortWorldK_c refC 2 w g 0 m d os
  · unfold Go.Proofs.sortWorldK Go.Sort.grow Go.Sort.putRowK Go.Sort.putRow Go.Sort.mapBlock Go.Sort.ahead
    show (w.heap.modify g _ ++ os)[k]? = w.heap[k]?
    rw [Array.getElem?_append_left (by rw [Array.size_modify]; exact hk), Array.getElem?_modify, if_neg (fun e => hs e.symm)]
theorem rwhole_extract (d : Array (Int × Int)) : (d.extract 0 d.size).toList = d.toList := by rw [Array.extract_size]
theorem rat_idx (d : Array (Int × Int)) (i : Nat) (h : i < d.size) : d[i]! = d.toList[i]'(by rw [Array.length_toList]; exact h) := by
  rw [getElem!_pos d i h, Array.getElem_toList]
theorem rholds_own {w : World} {base g cap : Nat} {N : List (Int × Int)} (h : OwnL w base 37 2 (.slice (some ⟨g, 0, none⟩) N.length cap) (N.map refC)) : Go.Sort.HoldsK refC 2 w g 0 N.toArray := by
  intro t ht
  have ht' : t < N.length * 2 := by simpa using ht
  have hj : t / 2 < N.length := by omega
  rw [Go.Sort.get_flatK _ _ _ _ (by simpa using ht'), Nat.zero_add]
  have hel : (N.toArray)[t / 2]! = N[t / 2] := by
    rw [getElem!_pos _ _ (by simpa using hj)]
    simp
  have hrow : (N.map refC)[t / 2]? = some (refC N[t / 2]) := by rw [List.getElem?_map, List.getElem?_eq_getElem hj]; rfl
  rw [hel]
  refine ⟨?_, h.frozen t⟩
  have hm : t = t / 2 * 2 + t % 2 := by omega
  have hlt : t % 2 < 2 := Nat.mod_lt _ (by decide)
  have hu : (refC N[t / 2])[t % 2]? = some ((refC N[t / 2])[t % 2]!) := by
    have hlen : (refC N[t / 2]).length = 2 := rfl
    rw [List.getElem?_eq_getElem (by omega), getElem!_pos _ _ (by omega)]
  have := h.cell (j := t / 2) (i := t % 2) hrow hu
  rwa [← hm] at this
theorem refs_held {w : World} {g : Nat} {d : Array (Int × Int)} (h : Go.Sort.HoldsK refC 2 w g 0 d) (hg : g < w.heap.size) : ListAt w w.heap.size 2 (some ⟨g, 0, none⟩) (d.toList.map refC) := by
  refine fun _ => ⟨g, 0, rfl, hg, fun j cs hj i v hi => ?_⟩
  rw [List.getElem?_map] at hj
  cases hx : d.toList[j]? with
  | none => rw [hx] at hj; cases hj
  | some x =>
    rw [hx] at hj
    have hjl : j < d.toList.length := (List.getElem?_eq_some_iff.1 hx).1
    have hjs : j < d.size := by rw [← Array.length_toList]; exact hjl
    injection hj with hj
    have hcs : cs = refC x := hj.symm
    have hil : i < cs.length := (List.getElem?_eq_some_iff.1 hi).1
    have hi2 : i < 2 := by rw [hcs] at hil; exact hil
    have hc := (h.cell (i := j) (c := i) hjs hi2).1
    have hxe : d[j]! = x := by
      rw [rat_idx d j hjs]
      exact (List.getElem?_eq_some_iff.1 hx).2
    rw [hxe, ← hcs, getElem!_pos cs i hil] at hc
    rw [hc, (List.getElem?_eq_some_iff.1 hi).2]
set_option maxRecDepth 100000 in
set_option maxHeartbeats 1000000 in
theorem rsort_any (g cap : Nat) (N : List (Int × Int)) (hN : N.length ≤ 100000) (w : World) (base : Nat) (hown : OwnL w base 37 2 (.slice (some ⟨g, 0, none⟩) N.length cap) (N.map refC)) :
    Calls Try.prog 44 #[.slice (some ⟨g, 0, none⟩) N.length cap, .func (.func 45) #[] #[]] w fun e w' => e = .returned (.tuple #[]) ∧ Turned (fun i => i = g) w w' ∧ ListAt w' w'.heap.size 2 (some ⟨g, 0, none⟩) ((sortP N).map refC) := by
  have hg : g < w.heap.size := by
    rcases hown.form with ⟨h, _⟩ | ⟨g', _, h, _, h2, _⟩
    · cases h
    · injection h with h
      injection h with h
      injection h with h
      omega
  have hH := rholds_own hown
  have hds : N.toArray.size = N.length := by simp
  have hdl : N.toArray.toList = N := by simp
  obtain ⟨d, hd⟩ : ∃ d, N.toArray = d := ⟨_, rfl⟩
  rw [hd] at hH hds hdl
  have eg : ∀ args w, (callFunc 45 args).run Try.prog w = .ok (.enter 45 args) w := enters_of Try.func45 (by kernel_rfl) rfl
  have hcon := Go.Proofs.AnyQ.slices_SortFunc sortRf 2 Try.isAgg37 Try.sizeOf37 refC (fun _ => rfl) (fun x v hv => by simp [refC] at hv; rcases hv with rfl | rfl <;> rfl) cmpP swP 45 #[] g 0 cap d w eg (fun m os dk hs x y => refs1_any x y _) hH hg (by rw [hds]; omega)
  change Calls Try.prog 44 _ _ _ at hcon
  rw [hds] at hcon
  refine hcon.mono ?_
  rintro e w' ⟨rfl, d', n, os, hp, hs, rfl⟩
  refine ⟨rfl, rsorted_turned w g n d' os, ?_⟩
  have hsz : d'.size = d.size := hp.1
  have hh := refs_held (d := d') (Go.Proofs.holdsK_sortWorldK_c refC 2 w g 0 d d' n os hH hg hsz) (Nat.lt_of_lt_of_le hg (Go.Proofs.size_sortWorldK_c refC 2 w g 0 n d' os))
  have he : d'.toList = sortP N := by
    refine sortP_is N _ ?_ ?_
    · have h3 := hp.2.2
      rw [← hds, rwhole_extract d, ← hsz, rwhole_extract d'] at h3
      rw [← hdl]
      exact h3
    · intro i j hi hj hij hlt
      rw [Array.length_toList] at hi hj
      have h4 := hs i j (Nat.zero_le _) hij (by omega)
      rw [rat_idx d' j hj, rat_idx d' i hi] at h4
      rw [(lt_cmpP _ _).2 hlt] at h4
      cases h4
  rw [he] at hh
  exact hh
theorem rsort_own (N : List (Int × Int)) (hN : N.length ≤ 100000) (w : World) (base : Nat) (v : Value) (hown : OwnL w base 37 2 v (N.map refC)) :
    ∃ A c, v = .slice A (sortP N).length c ∧ Calls Try.prog 44 #[.slice A (sortP N).length c, .func (.func 45) #[] #[]] w fun e w' => e = .returned (.tuple #[]) ∧ Turned (fun i => base ≤ i) w w' ∧ ListAt w' w'.heap.size 2 A ((sortP N).map refC) := by
  have hlen : (sortP N).length = N.length := (sortP_perm N).length_eq
  rcases hown.form with ⟨rfl, h0⟩ | ⟨g, cap, rfl, hg, hg2, _⟩
  · have hn0 : N.length = 0 := by have := congrArg List.length h0; simpa using this
    have hm0 : (sortP N).length = 0 := by omega
    refine ⟨none, 0, by rw [hm0], ?_⟩
    rw [hm0]
    have hcon := Go.Proofs.AnyF.slices_SortFunc_none sortRf none 0 (.func (.func 45) #[] #[]) w
    change Calls Try.prog 44 _ _ _ at hcon
    refine hcon.mono ?_
    rintro e w' ⟨rfl, rfl⟩
    refine ⟨rfl, Turned.refl _ _, ?_⟩
    rw [List.eq_nil_of_length_eq_zero hm0]
    exact fun h => absurd h (by decide)
  · rw [List.length_map] at hown ⊢
    refine ⟨some ⟨g, 0, none⟩, cap, by rw [hlen], ?_⟩
    rw [hlen]
    refine (rsort_any g cap N hN w base hown).mono ?_
    rintro e w' ⟨rfl, ht, hr⟩
    exact ⟨rfl, ht.mono (fun k _ hk => by subst hk; exact hg), hr⟩
/-- The references of the labels, in their order. -/
def rawR (ls : List Lab) : List (Int × Int) := (ls.filter fun l => !emL l).map fun l => (l.id, l.unit)
def refsT (T : Tab) : List (Int × Int) := sortP (rawR T.labels)
theorem rawR_snoc (ls : List Lab) (k : Nat) (h : k < ls.length) : rawR (ls.take (k + 1)) = rawR (ls.take k) ++ (if emL ls[k] = true then [] else [(ls[k].id, ls[k].unit)]) := by
  unfold rawR
  rw [List.take_succ_eq_append_getElem h, List.filter_append, List.map_append]
  congr 1
  cases hm : emL ls[k] <;> simp [hm]
theorem rawR_len (ls : List Lab) (k : Nat) : (rawR (ls.take k)).length ≤ k := by
  unfold rawR
  rw [List.length_map]
  have := List.length_filter_le (fun l => !emL l) (ls.take k)
  rw [List.length_take] at this
  omega
theorem info_ref : (Try.prog.info? 37).map (fun i => (i.zero, i.size, i.bytes)) = some (some (.agg #[.int .i64 0, .int .i64 0]), 2, 16) := by kernel_rfl
set_option maxRecDepth 100000 in
set_option maxHeartbeats 4000000 in
theorem refs_tab (A : Option Addr) (c : Nat) (xs : List LabE) (T : Tab) (w : World) (h : TabAt w A c xs T) (hs : SmallT T) (n : Nat) (hn : n = T.labels.length) (kf : List (Int × Int)) (hkf : refsT T = kf) :
    Calls Try.prog 18 #[.agg #[.string T.name, .int .i64 T.tracks, .slice A n c]] w fun e w' => ∃ A c, e = .returned (.slice A kf.length c) ∧ ListAt w' w'.heap.size 2 A (kf.map refC) ∧ Grew w w' := by
  subst hn
  have hlen := hs.len
  have hg0 := (Grew.refl w).alloc (.cells #[.string T.name, .int .i64 T.tracks, .slice A T.labels.length c] 34)
  have hb0 := Blk.new w 34 #[.string T.name, .int .i64 T.tracks, .slice A T.labels.length c] rfl
  have HTB := Lib.hid h
  have HS := Lib.hid hs
  have HKF := Lib.hid hkf
  clear h hs hkf
  have x2 := hb0.cell 2
  go_enter Try.func18, Try.ntmps18
  go_wp2_with fail
  go_loopg [3, 9] T.labels.length (fun gk ov i wr => ∃ k : Nat, k ≤ T.labels.length ∧ gk = T.labels.length - k ∧ i = .int .i64 k ∧ OwnL wr w.heap.size 37 2 ov ((rawR (T.labels.take k)).map refC) ∧ Grew w wr)
  case atStart => exact ⟨0, by omega, by omega, rfl, OwnL.nil _ _ _ _, hg0⟩
  case round =>
    obtain ⟨k, hk, hgk, rfl, hown, hg⟩ := hrel
    have HGK := Lib.hid hgk
    have HOWN := Lib.hid hown
    have HG := Lib.hid hg
    have hgs := hg.size
    have hrl := rawR_len T.labels k
    clear hgk x2 hb0 hg0
    by_cases hlt : k < T.labels.length
    · obtain ⟨b, off, B, d, l, rfl, hbl, hxk, hv, hla, c0, c1, c2, c3, c4⟩ := (HTB.out.hold hg).at_ hlt
      have hle := HS.out.ext T.labels[k] (List.getElem_mem hlt)
      rw [hv] at hle
      have hrs := rawR_snoc T.labels k hlt
      rw [hv] at hrs
      have HRS := Lib.hid hrs
      have hgl : Grew wr (wr.alloc (.cells #[.int .i64 l.id, .int .i64 l.unit, .string l.name, .string l.note, .slice B l.ext.length d] 24)) := (Grew.refl wr).alloc _
      have HE := Lib.hid (empty_any B d l _ (hla.hold hgl) hle)
      have HLB := Lib.hid (Blk.new wr 24 #[.int .i64 l.id, .int .i64 l.unit, .string l.name, .string l.note, .slice B l.ext.length d] rfl)
      have HGL := Lib.hid hgl
      clear hv hxk hla hrs hgl hown hg
      go_wp2_with fail
      refine HE.out.mono ?_
      rintro e w3 ⟨rfl, g3⟩
      have hg3 := HGL.out.trans g3
      have hlb := HLB.out.grew g3
      have y0 := hlb.cell 0
      have y1 := hlb.cell 1
      have hyl := hlb.lt
      have hown3 := HOWN.out.grew hg3
      have HG3 := Lib.hid (HG.out.trans hg3)
      have hzz := HG3.out.size
      cases hem : emL l with
      | true =>
        have HF := Lib.hid (show rawR (T.labels.take (k + 1)) = rawR (T.labels.take k) from by rw [HRS.out, if_pos hem, List.append_nil])
        have HO := Lib.hid hown3
        clear hem hlb hown3 hg3 g3 c0 c1 c2 c3 c4
        go_wp2_with fail
        go_roundg (T.labels.length - (k + 1))
        case measure => rw [HGK.out]; omega
        case rel => exact ⟨k + 1, by omega, by omega, by go_num, by rw [HF.out]; exact HO.out, HG3.out⟩
      | false =>
        have HF := Lib.hid (show rawR (T.labels.take (k + 1)) = rawR (T.labels.take k) ++ [(l.id, l.unit)] from by rw [HRS.out, if_neg (by rw [hem]; simp)])
        have hge := hown3.row_ge
        clear hem hlb hg3 g3 c0 c1 c2 c3 c4
        go_wp2_with (at_builtin; refine wpList_push rfl _ _ 44 rfl w.heap.size 37 2 16 _ Try.underlying44 info_ref rfl (by decide) w3 _ ((rawR (T.labels.take k)).map refC) (refC (l.id, l.unit)) (by rfl) rfl rfl hown3 (by first | rfl | (simp; done)) rfl rfl (by rw [List.length_map]; omega) (by rw [List.length_map]; omega) hzz ?_; intro v' w5 hown5 hgr hbk hsz)
        go_roundg (T.labels.length - (k + 1))
        case measure => rw [HGK.out]; omega
        case rel => exact ⟨k + 1, by omega, by omega, by go_num, by rw [HF.out, List.map_append]; exact hown5, hgr _ HG3.out (Nat.le_refl _)⟩
    · have hkn : k = T.labels.length := by omega
      subst hkn
      rw [List.take_length] at hown hrl
      obtain ⟨A1, c1, hv1, hso⟩ := rsort_own (rawR T.labels) (by omega) wr w.heap.size _ hown
      subst hv1
      have HSO := Lib.hid hso
      have HLE := Lib.hid (show sortP (rawR T.labels) = kf from HKF.out)
      rw [HLE.out] at HSO ⊢
      clear hso hown hg
      go_wp2_with fail
      refine HSO.out.mono ?_
      rintro e w7 ⟨rfl, ht7, hl7⟩
      have HG7 := Lib.hid (HG.out.turn ht7 (fun i hi => hi))
      have HL7 := Lib.hid hl7
      clear ht7 hl7
      go_wp2_with fail
      go_ret
      exact ⟨_, _, rfl, HL7.out, HG7.out⟩
end Go.Proofs.Ytnlaogneceanoaa
namespace Go.Proofs.Ytnlaogneceanoaa
set_option linter.unusedVariables false
set_option linter.unusedSimpArgs false
set_option linter.unusedSectionVars false
open Go.RowKit
/-- Two lists of labels in which a search finds the same. -/
theorem idxP_same (p : Lab → Bool) (ls ms : List Lab) (hl : ls.length = ms.length) (h : ∀ j (h1 : j < ls.length) (h2 : j < ms.length), p ls[j] = p ms[j]) : idxP p ls = idxP p ms := by
  rcases idxP_cases p ls with ⟨k, hk, e1, h1, h2⟩ | ⟨e1, h1⟩
  · rw [e1]
    refine (idxP_hit p ms k (by omega) (by rw [← h k hk (by omega)]; exact h1) (fun j hj hjk => by rw [← h j (by omega) hj]; exact h2 j (by omega) hjk)).symm
  · rw [e1]
    exact (idxP_none p ms (fun j hj => by rw [← h j (by omega) hj]; exact h1 _ (List.getElem_mem _))).symm
theorem fnd_same (T U : Tab) (id unit : Int) (hl : T.labels.length = U.labels.length) (h : ∀ j (h1 : j < T.labels.length) (h2 : j < U.labels.length), hitL id unit T.labels[j] = hitL id unit U.labels[j] ∧ (hitL id unit T.labels[j] = true → T.labels[j] = U.labels[j])) : fndT T id unit = fndT U id unit := by
  have hi : idxT T id unit = idxT U id unit := idxP_same _ _ _ hl (fun j h1 h2 => (h j h1 h2).1)
  rcases fndT_cases T id unit with ⟨k, hk, e1, e2, e3⟩ | ⟨e1, e2, _⟩
  · rcases fndT_cases U id unit with ⟨j, hj, f1, f2, _⟩ | ⟨f1, _, _⟩
    · have hkj : k = j := by omega
      subst hkj
      rw [e2, f2, (h k hk hj).2 e3]
    · omega
  · rcases fndT_cases U id unit with ⟨j, hj, f1, f2, _⟩ | ⟨f1, f2, _⟩
    · omega
    · rw [e2, f2]
theorem fnd_at (T : Tab) (id unit : Int) (k : Nat) (hk : k < T.labels.length) (h : hitL id unit T.labels[k] = true) (hn : ∀ j (hj : j < T.labels.length), j ≠ k → hitL id unit T.labels[j] = false) : fndT T id unit = (T.labels[k], true) := by
  have hi : idxT T id unit = (k : Int) := idxP_hit _ _ k hk h (fun j hj hjk => hn j hj (by omega))
  unfold fndT
  rw [hi, if_pos (by omega), Int.toNat_natCast, List.getD_eq_getElem?_getD, List.getElem?_eq_getElem hk]
  rfl
theorem fnd_none (T : Tab) (id unit : Int) (hn : ∀ j (hj : j < T.labels.length), hitL id unit T.labels[j] = false) : fndT T id unit = (labZ, false) := by
  have hi : idxT T id unit = -1 := idxP_none _ _ hn
  unfold fndT
  rw [hi, if_neg (by omega)]
theorem hit_labZ (id unit : Int) : hitL id unit labZ = false := by
  cases h : hitL id unit labZ with
  | false => rfl
  | true =>
    obtain ⟨h1, h2, _⟩ := (hitL_iff _ _ _).1 h
    exact absurd h2.symm h1
/-- In a valid table two labels of one kind are one. -/
theorem good_one (T : Tab) (h : GoodT T) (i j : Nat) (hi : i < T.labels.length) (hj : j < T.labels.length) (h1 : emL T.labels[i] = false) (h2 : emL T.labels[j] = false) (he : keyL T.labels[i] = keyL T.labels[j]) : i = j := by
  have hk := h.keys
  unfold keysL at hk
  rw [List.Nodup, List.pairwise_map, List.pairwise_filter, List.pairwise_iff_getElem] at hk
  rcases Nat.lt_trichotomy i j with hlt | heq | hgt
  · exact absurd he (hk i j hi hj hlt (by rw [h1]; rfl) (by rw [h2]; rfl))
  · exact heq
  · exact absurd he.symm (hk j i hj hi hgt (by rw [h2]; rfl) (by rw [h1]; rfl))
theorem emL_of_id (l : Lab) (h : l.id ≠ 0) : emL l = false := by
  cases he : emL l with
  | false => rfl
  | true => rw [(emL_iff l).1 he] at h; exact absurd rfl h
theorem good_hit (T : Tab) (h : GoodT T) (id unit : Int) (i j : Nat) (hi : i < T.labels.length) (hj : j < T.labels.length) (h1 : T.labels[i].id = id) (h2 : T.labels[j].id = id) (h0 : id ≠ 0) (hu : (decide (0 < T.labels[i].unit)) = decide (0 < T.labels[j].unit)) : i = j :=
  good_one T h i j hi hj (emL_of_id _ (by rw [h1]; exact h0)) (emL_of_id _ (by rw [h2]; exact h0)) (by unfold keyL; rw [h1, h2, hu])
/-- What ContentsConfirms says of a confirmed table. -/
theorem confirm_facts (T U : Tab) (id unit : Int) (note : ByteArray) (h : chgT T id unit (chCon T id note) = (U, 0)) :
    ∃ l, fndT T id unit = (l, true) ∧ fndT U id 0 = ({ l with unit := 0, note := note }, true) ∧ (fndT U id unit).2 = false ∧ ∀ i u, i ≠ id → fndT T i u = fndT U i u := by
  rcases chgT_cases T id unit (chCon T id note) with ⟨_, hx⟩ | ⟨_, _, hx⟩ | ⟨hv, k, hk, hi, hhit, hx⟩
  · rw [hx] at h; injection h with _ h; exact absurd h (by decide)
  · rw [hx] at h; injection h with _ h; exact absurd h (by decide)
  rcases hx with ⟨h0, hx⟩ | ⟨h0, hx⟩
  rotate_left
  · rw [hx] at h; injection h with _ h; exact absurd h h0
  rw [hx] at h
  injection h with h _
  have G := (validT_iff T).1 hv
  obtain ⟨hid0, hid, hun⟩ := (hitL_iff _ _ _).1 hhit
  have hc : chCon T id note k T.labels[k] = ((if 0 ≤ idxT T id 0 then T.labels.set (idxT T id 0).toNat labZ else T.labels).set k { T.labels[k] with unit := 0, note := note }, 0) ∧ T.labels[k].unit ≠ 0 := by
    unfold chCon at h0 ⊢
    by_cases hu : T.labels[k].unit = 0
    · rw [if_pos hu] at h0; exact absurd h0 (show ¬ (9 : Int) = 0 by decide)
    · rw [if_neg hu] at h0 ⊢
      by_cases hn : 400 < note.size
      · rw [if_pos hn] at h0; exact absurd h0 (show ¬ (1 : Int) = 0 by decide)
      · rw [if_neg hn]; exact ⟨rfl, hu⟩
  obtain ⟨hc, hu0⟩ := hc
  rw [hc] at h
  have hups : ∀ j (hj : j < T.labels.length), 0 ≤ T.labels[j].unit := fun j hj => (G.small.2 _ (List.getElem_mem hj)).2
  have hku := hups k hk
  -- where the true label lies, if there is one
  obtain ⟨z, hz⟩ : ∃ z : Nat, z = if 0 ≤ idxT T id 0 then (idxT T id 0).toNat else T.labels.length := ⟨_, rfl⟩
  have hzl : ∀ j (hj : j < T.labels.length), j = z ∨ ¬ (T.labels[j].id = id ∧ T.labels[j].unit = 0) := by
    intro j hj
    rcases idxP_cases (hitL id 0) T.labels with ⟨i, hi2, e1, e2, _⟩ | ⟨e1, e2⟩
    · have e1' : idxT T id 0 = (i : Int) := e1
      rw [e1', if_pos (by omega), Int.toNat_natCast] at hz
      by_cases hh : T.labels[j].id = id ∧ T.labels[j].unit = 0
      · left
        obtain ⟨_, e3, e4⟩ := (hitL_iff _ _ _).1 e2
        rw [hz]
        exact good_hit T G id 0 j i hj hi2 hh.1 e3 hid0 (by rw [hh.2, e4])
      · exact .inr hh
    · right
      rintro ⟨h1, h2⟩
      have := e2 _ (List.getElem_mem hj)
      rw [(hitL_iff _ _ _).2 ⟨hid0, h1, h2⟩] at this
      cases this
  have hzk : z ≠ k := by
    rcases idxP_cases (hitL id 0) T.labels with ⟨i, hi2, e1, e2, _⟩ | ⟨e1, e2⟩
    · have e1' : idxT T id 0 = (i : Int) := e1
      rw [e1', if_pos (by omega), Int.toNat_natCast] at hz
      obtain ⟨_, _, e4⟩ := (hitL_iff _ _ _).1 e2
      rintro rfl
      subst hz
      exact hu0 e4
    · have e1' : idxT T id 0 = -1 := e1
      rw [e1', if_neg (by omega)] at hz
      omega
  have hzid : ∀ (hj : z < T.labels.length), T.labels[z].id = id := by
    intro hj
    rcases idxP_cases (hitL id 0) T.labels with ⟨i, hi2, e1, e2, _⟩ | ⟨e1, e2⟩
    · have e1' : idxT T id 0 = (i : Int) := e1
      rw [e1', if_pos (by omega), Int.toNat_natCast] at hz
      obtain ⟨_, e3, _⟩ := (hitL_iff _ _ _).1 e2
      subst hz
      exact e3
    · have e1' : idxT T id 0 = -1 := e1
      rw [e1', if_neg (by omega)] at hz
      omega
  have hU : U.labels = (T.labels.set z labZ).set k { T.labels[k] with unit := 0, note := note } := by
    rw [← h]
    simp only
    rw [hz]
    split
    · rfl
    · rw [List.set_eq_of_length_le (Nat.le_refl _)]
  have hUl : U.labels.length = T.labels.length := by rw [hU]; simp
  have hUk : ∀ (hk2 : k < U.labels.length), U.labels[k] = { T.labels[k] with unit := 0, note := note } := fun hk2 => by simp [hU]
  have hUz : ∀ (hz2 : z < U.labels.length), U.labels[z] = labZ := fun hz2 => by simp [hU, List.getElem_set, Ne.symm hzk]
  have hUo : ∀ j (hj : j < U.labels.length) (hj2 : j < T.labels.length), j ≠ k → j ≠ z → U.labels[j] = T.labels[j] := fun j hj hj2 h1 h2 => by simp [hU, List.getElem_set, Ne.symm h1, Ne.symm h2]
  refine ⟨T.labels[k], ?_, ?_, ?_, ?_⟩
  · refine fnd_at T id unit k hk hhit (fun j hj hjk => ?_)
    cases hh : hitL id unit T.labels[j] with
    | false => rfl
    | true =>
      obtain ⟨_, e2, e3⟩ := (hitL_iff _ _ _).1 hh
      exact absurd (good_hit T G id unit j k hj hk e2 hid hid0 (by rw [e3, hun])) hjk
  · have hk2 : k < U.labels.length := by omega
    rw [← hUk hk2]
    refine fnd_at U id 0 k hk2 ((hitL_iff _ _ _).2 ⟨hid0, by rw [hUk hk2]; exact hid, by rw [hUk hk2]⟩) (fun j hj hjk => ?_)
    by_cases hjz : j = z
    · subst hjz
      rw [hUz hj]
      exact hit_labZ _ _
    · rw [hUo j hj (by omega) hjk hjz]
      cases hh : hitL id 0 T.labels[j] with
      | false => rfl
      | true =>
        obtain ⟨_, e2, e3⟩ := (hitL_iff _ _ _).1 hh
        rcases hzl j (by omega) with h9 | h9
        · exact absurd h9 hjz
        · exact absurd ⟨e2, e3⟩ h9
  · have hun0 : unit ≠ 0 := by rw [← hun]; exact hu0
    rw [fnd_none U id unit (fun j hj => ?_)]
    by_cases hjk : j = k
    · subst hjk
      rw [hUk hj]
      cases hh : hitL id unit { T.labels[j] with unit := 0, note := note } with
      | false => rfl
      | true => obtain ⟨_, _, e3⟩ := (hitL_iff _ _ _).1 hh; exact absurd e3.symm hun0
    by_cases hjz : j = z
    · subst hjz
      rw [hUz hj]
      exact hit_labZ _ _
    · rw [hUo j hj (by omega) hjk hjz]
      cases hh : hitL id unit T.labels[j] with
      | false => rfl
      | true =>
        obtain ⟨_, e2, e3⟩ := (hitL_iff _ _ _).1 hh
        exact absurd (good_hit T G id unit j k (by omega) hk e2 hid hid0 (by rw [e3, hun])) hjk
  · intro i u hiid
    refine fnd_same T U i u hUl.symm (fun j h1 h2 => ?_)
    by_cases hjk : j = k
    · subst hjk
      have e1 : hitL i u T.labels[j] = false := by
        cases hh : hitL i u T.labels[j] with
        | false => rfl
        | true => obtain ⟨_, e2, _⟩ := (hitL_iff _ _ _).1 hh; exact absurd (e2.symm.trans hid) hiid
      have e2 : hitL i u U.labels[j] = false := by
        cases hh : hitL i u U.labels[j] with
        | false => rfl
        | true =>
          obtain ⟨_, e2, _⟩ := (hitL_iff _ _ _).1 hh
          rw [hUk h2] at e2
          exact absurd (e2.symm.trans hid) hiid
      rw [e1, e2]
      exact ⟨rfl, fun h => by cases h⟩
    by_cases hjz : j = z
    · subst hjz
      have e1 : hitL i u T.labels[j] = false := by
        cases hh : hitL i u T.labels[j] with
        | false => rfl
        | true => obtain ⟨_, e2, _⟩ := (hitL_iff _ _ _).1 hh; exact absurd (e2.symm.trans (hzid h1)) hiid
      rw [e1, hUz h2, hit_labZ]
      exact ⟨rfl, fun h => by cases h⟩
    · rw [hUo j h2 h1 hjk hjz]
      exact ⟨rfl, fun _ => rfl⟩
theorem set_exts {ls : List Lab} {m : Nat} (h : ∀ l ∈ ls, l.ext.length ≤ m) (k : Nat) (x : Lab) (hx : x.ext.length ≤ m) : ∀ l ∈ ls.set k x, l.ext.length ≤ m := fun l hl => by
  rcases List.mem_or_eq_of_mem_set hl with hl | rfl
  · exact h l hl
  · exact hx
theorem confirm_small (T U : Tab) (id unit : Int) (note : ByteArray) (er : Int) (h : chgT T id unit (chCon T id note) = (U, er)) (hs : SmallT T) : SmallT U := by
  have hz : SmallT tabZ := ⟨by decide, fun l hl => by cases hl⟩
  rcases chgT_cases T id unit (chCon T id note) with ⟨hv, hx⟩ | ⟨hv, hi, hx⟩ | ⟨hv, k, hk, hi, hhit, ⟨h0, hx⟩ | ⟨h0, hx⟩⟩
  · rw [hx] at h; injection h with h _; rw [← h]; exact hz
  · rw [hx] at h; injection h with h _; rw [← h]; exact hz
  · rw [hx] at h; injection h with h _; rw [← h]
    have hl := hs.ext T.labels[k] (List.getElem_mem hk)
    unfold chCon at h0 ⊢
    split
    · exact hs
    · split
      · exact hs
      · refine ⟨?_, ?_⟩
        · simp only
          rw [List.length_set]
          split
          · rw [List.length_set]; exact hs.len
          · exact hs.len
        · refine set_exts ?_ _ _ hl
          split
          · exact set_exts hs.ext _ _ (by decide)
          · exact hs.ext
  · rw [hx] at h; injection h with h _; rw [← h]; exact hz
theorem fnd_len (T : Tab) (hs : SmallT T) (id unit : Int) : (fndT T id unit).1.ext.length ≤ 1000 := by
  rcases fndT_cases T id unit with ⟨k, hk, _, h, _⟩ | ⟨_, h, _⟩
  · rw [h]; exact hs.ext _ (List.getElem_mem hk)
  · rw [h]; decide
/-- What ContentsConfirms says of a refusal. -/
theorem confirm_refused (T U : Tab) (id unit : Int) (note : ByteArray) (er : Int) (h : chgT T id unit (chCon T id note) = (U, er)) (he : er ≠ 0) :
    U = tabZ ∧ (validT T = false ∨ (fndT T id unit).2 = false ∨ unit = 0 ∨ 400 < note.size) := by
  rcases chgT_cases T id unit (chCon T id note) with ⟨hv, hx⟩ | ⟨hv, hi, hx⟩ | ⟨hv, k, hk, hi, hhit, hx⟩
  · rw [hx] at h; injection h with h _; exact ⟨h.symm, .inl hv⟩
  · rw [hx] at h; injection h with h _
    refine ⟨h.symm, .inr (.inl ?_)⟩
    unfold fndT
    rw [hi, if_neg (by omega)]
  · rcases hx with ⟨h0, hx⟩ | ⟨h0, hx⟩
    · rw [hx] at h; injection h with _ h; exact absurd h.symm he
    · rw [hx] at h; injection h with h _
      refine ⟨h.symm, .inr (.inr ?_)⟩
      obtain ⟨_, _, hun⟩ := (hitL_iff _ _ _).1 hhit
      unfold chCon at h0
      by_cases hu : T.labels[k].unit = 0
      · exact .inl (by rw [← hun]; exact hu)
      · rw [if_neg hu] at h0
        by_cases hn : 400 < note.size
        · exact .inr hn
        · rw [if_neg hn] at h0; exact absurd rfl h0
end Go.Proofs.Ytnlaogneceanoaa
