/- Chapter 8: ContentsConfirms. -/
import Derived.Test.YtnlaogneceanoaaCsJ
namespace Go.Proofs.Ytnlaogneceanoaa
set_option linter.unusedVariables false
set_option linter.unusedSimpArgs false
set_option linter.unusedSectionVars false
open Go.RowKit
theorem nid (a b : Int) (h : a ≠ b) : (a != b) = true := by rw [bne_iff_ne]; exact h
theorem nid2 (a b : Int) (h : a = b) : (a != b) = false := by subst h; simp
section
variable (A : Option Addr) (c : Nat) (T : Tab) (id unit : Int) (note : ByteArray) (w : World)
set_option maxRecDepth 100000 in
set_option maxHeartbeats 16000000 in
theorem contentsConfirms_any (i0 : -9223372036854775808 ≤ id) (i1 : id ≤ 9223372036854775807) (u0 : -9223372036854775808 ≤ unit) (u1 : unit ≤ 9223372036854775807) (hns : note.size ≤ 9223372036854775807) (hT : ∃ xs, TabAt w A c xs T) :
    Calls Try.prog 4 #[.agg #[.string T.name, .int .i64 T.tracks, .slice A T.labels.length c], .int .i64 id, .int .i64 unit, .string note] w fun e w' => e = .returned (.bool true) ∧ Grew w w' := by
  obtain ⟨xs, h⟩ := hT
  have hg0 := (Grew.refl w).alloc (.cells #[.string T.name, .int .i64 T.tracks, .slice A T.labels.length c] 34)
  have HB0 := Lib.hid (Blk.new w 34 #[.string T.name, .int .i64 T.tracks, .slice A T.labels.length c] rfl)
  have HTB := Lib.hid h
  have HFW := Lib.hid (fun w1 (hg : Grew w w1) => fewT_any A c xs T w1 (h.hold hg))
  have HG0 := Lib.hid hg0
  clear h hg0
  cases hf : fewT T with
  | false =>
    have HF := Lib.hid hf
    clear hf
    go_enter Try.func4, Try.ntmps4
    go_wp2_with fail
    refine (awake_con _).mono ?_
    rintro e w1 ⟨rfl, g1⟩
    have HB1 := Lib.hid (HB0.out.grew g1)
    have HG1 := Lib.hid (HG0.out.trans g1)
    have x0 := HB1.out.cell 0
    have x1 := HB1.out.cell 1
    have x2 := HB1.out.cell 2
    have hbl := HB1.out.lt
    clear g1
    go_wp2_with fail
    refine (HFW.out _ HG1.out).mono ?_
    rintro e w2 ⟨rfl, g2⟩
    rw [HF.out]
    clear x0 x1 x2 hbl
    go_wp2_with fail
    refine (awake_con _).mono ?_
    rintro e w3 ⟨rfl, g3⟩
    go_wp2_with fail
    go_ret
    exact ⟨rfl, (HG1.out.trans g2).trans g3⟩
  | true =>
  obtain ⟨hsm, _⟩ := fewT_facts hf
  have HF := Lib.hid hf
  clear hf
  by_cases hn5 : note.size > 500
  · have hn5i : (note.size : Int) > 500 := by omega
    clear hsm
    go_enter Try.func4, Try.ntmps4
    go_wp2_with fail
    refine (awake_con _).mono ?_
    rintro e w1 ⟨rfl, g1⟩
    have HB1 := Lib.hid (HB0.out.grew g1)
    have HG1 := Lib.hid (HG0.out.trans g1)
    have x0 := HB1.out.cell 0
    have x1 := HB1.out.cell 1
    have x2 := HB1.out.cell 2
    have hbl := HB1.out.lt
    clear g1
    go_wp2_with fail
    refine (HFW.out _ HG1.out).mono ?_
    rintro e w2 ⟨rfl, g2⟩
    rw [HF.out]
    clear x0 x1 x2 hbl
    go_wp2_with fail
    refine (awake_con _).mono ?_
    rintro e w3 ⟨rfl, g3⟩
    go_wp2_with fail
    go_ret
    exact ⟨rfl, (HG1.out.trans g2).trans g3⟩
  have hn5i : ¬ (note.size : Int) > 500 := by omega
  obtain ⟨⟨old, ok⟩, hold⟩ : ∃ p, fndT T id unit = p := ⟨_, rfl⟩
  obtain ⟨⟨U, er⟩, hU⟩ : ∃ p, chgT T id unit (chCon T id note) = p := ⟨_, rfl⟩
  have HOLD := Lib.hid hold
  have HFD := Lib.hid (fun w1 (hg : Grew w w1) i u l b hb => find_tab A c xs T w1 (HTB.out.hold hg) hsm _ rfl i u l b hb)
  have HCF := Lib.hid (fun w1 (hg : Grew w w1) => confirm_tab A c xs T id unit w1 (HTB.out.hold hg) hsm note hns U er hU)
  have HVD := Lib.hid (fun w1 (hg : Grew w w1) => valid_tab A c xs T w1 (HTB.out.hold hg) hsm _ rfl)
  have HRF := Lib.hid (fun w1 (hg : Grew w w1) kf hk => refs_tab A c xs T w1 (HTB.out.hold hg) hsm _ rfl kf hk)
  by_cases her : er = 0
  rotate_left
  · obtain ⟨hUz, hwhy⟩ := confirm_refused T U id unit note er hU her
    have hne := nid er 0 her
    have hul0 : ((U.labels.length : Int) == 0) = true := by rw [hUz]; rfl
    rw [hold] at hwhy
    have HW := Lib.hid hwhy
    clear hwhy hold hU hUz her hsm
    cases hv : validT T with
    | false =>
      have HV := Lib.hid hv
      clear hv
      go_enter Try.func4, Try.ntmps4
      go_wp2_with fail
      refine (awake_con _).mono ?_
      rintro e w1 ⟨rfl, g1⟩
      have HB1 := Lib.hid (HB0.out.grew g1)
      have HG1 := Lib.hid (HG0.out.trans g1)
      have x0 := HB1.out.cell 0
      have x1 := HB1.out.cell 1
      have x2 := HB1.out.cell 2
      have hbl := HB1.out.lt
      clear g1
      go_wp2_with fail
      refine (HFW.out _ HG1.out).mono ?_
      rintro e w2 ⟨rfl, g2⟩
      rw [HF.out]
      clear x0 x1 x2 hbl
      have HB2 := Lib.hid ((HB1.out.grew g2).alloc (.cells #[.int .i64 id, .int .i64 unit] 37))
      have HR2 := Lib.hid (Blk.new w2 37 #[.int .i64 id, .int .i64 unit] rfl)
      have HG2 := Lib.hid ((HG1.out.trans g2).alloc (.cells #[.int .i64 id, .int .i64 unit] 37))
      have x0 := HB2.out.cell 0
      have x1 := HB2.out.cell 1
      have x2 := HB2.out.cell 2
      have hbl := HB2.out.lt
      clear g2
      go_wp2_with fail
      refine (HFD.out _ HG2.out id unit _ _ HOLD.out).mono ?_
      rintro e w3 ⟨B3, d3, rfl, hl3, g3⟩
      have gal : Grew w3 (w3.alloc (.cells #[.int .i64 old.id, .int .i64 old.unit, .string old.name, .string old.note, .slice B3 old.ext.length d3] 24)) := (Grew.refl w3).alloc _
      have HL3 := Lib.hid (hl3.hold gal)
      have HO3 := Lib.hid (Blk.new w3 24 #[.int .i64 old.id, .int .i64 old.unit, .string old.name, .string old.note, .slice B3 old.ext.length d3] rfl)
      have HB3 := Lib.hid ((HB2.out.grew g3).grew gal)
      have HR3 := Lib.hid ((HR2.out.grew g3).grew gal)
      have HG3 := Lib.hid ((HG2.out.trans g3).trans gal)
      clear x0 x1 x2 hbl g3 gal hl3
      have x0 := HB3.out.cell 0
      have x1 := HB3.out.cell 1
      have x2 := HB3.out.cell 2
      have hbl := HB3.out.lt
      have r0 := HR3.out.cell 0
      have r1 := HR3.out.cell 1
      have hrl := HR3.out.lt
      go_wp2_with fail
      refine (HCF.out _ HG3.out).mono ?_
      rintro e w4 ⟨A2, c2, ys, rfl, ht4, g4⟩
      have gal : Grew w4 (w4.alloc (.cells #[.string U.name, .int .i64 U.tracks, .slice A2 U.labels.length c2] 34)) := (Grew.refl w4).alloc _
      have HT4 := Lib.hid (ht4.hold gal)
      have HU4 := Lib.hid (Blk.new w4 34 #[.string U.name, .int .i64 U.tracks, .slice A2 U.labels.length c2] rfl)
      have HB4 := Lib.hid ((HB3.out.grew g4).grew gal)
      have HR4 := Lib.hid ((HR3.out.grew g4).grew gal)
      have HO4 := Lib.hid ((HO3.out.grew g4).grew gal)
      have HL4 := Lib.hid ((HL3.out.hold g4).hold gal)
      have HG4 := Lib.hid ((HG3.out.trans g4).trans gal)
      clear x0 x1 x2 hbl r0 r1 hrl g4 gal ht4
      have u2 := HU4.out.cell 2
      have hul := HU4.out.lt
      have x0 := HB4.out.cell 0
      have x1 := HB4.out.cell 1
      have x2 := HB4.out.cell 2
      have hbl := HB4.out.lt
      go_wp2_with fail
      refine (HVD.out _ HG4.out).mono ?_
      rintro e w5 ⟨rfl, g5⟩
      rw [HV.out]
      go_wp2_with fail
      go_ret
      exact ⟨rfl, HG4.out.trans g5⟩
    | true =>
    have HV := Lib.hid hv
    have hw2 : ok = false ∨ unit = 0 ∨ 400 < note.size := by
      rcases HW.out with h | h | h | h
      · rw [hv] at h; cases h
      · exact .inl h
      · exact .inr (.inl h)
      · exact .inr (.inr h)
    clear hv
    have HW2 := Lib.hid hw2
    clear hw2 HW
    cases ok with
    | false =>
      go_enter Try.func4, Try.ntmps4
      go_wp2_with fail
      refine (awake_con _).mono ?_
      rintro e w1 ⟨rfl, g1⟩
      have HB1 := Lib.hid (HB0.out.grew g1)
      have HG1 := Lib.hid (HG0.out.trans g1)
      have x0 := HB1.out.cell 0
      have x1 := HB1.out.cell 1
      have x2 := HB1.out.cell 2
      have hbl := HB1.out.lt
      clear g1
      go_wp2_with fail
      refine (HFW.out _ HG1.out).mono ?_
      rintro e w2 ⟨rfl, g2⟩
      rw [HF.out]
      clear x0 x1 x2 hbl
      have HB2 := Lib.hid ((HB1.out.grew g2).alloc (.cells #[.int .i64 id, .int .i64 unit] 37))
      have HR2 := Lib.hid (Blk.new w2 37 #[.int .i64 id, .int .i64 unit] rfl)
      have HG2 := Lib.hid ((HG1.out.trans g2).alloc (.cells #[.int .i64 id, .int .i64 unit] 37))
      have x0 := HB2.out.cell 0
      have x1 := HB2.out.cell 1
      have x2 := HB2.out.cell 2
      have hbl := HB2.out.lt
      clear g2
      go_wp2_with fail
      refine (HFD.out _ HG2.out id unit _ _ HOLD.out).mono ?_
      rintro e w3 ⟨B3, d3, rfl, hl3, g3⟩
      have gal : Grew w3 (w3.alloc (.cells #[.int .i64 old.id, .int .i64 old.unit, .string old.name, .string old.note, .slice B3 old.ext.length d3] 24)) := (Grew.refl w3).alloc _
      have HL3 := Lib.hid (hl3.hold gal)
      have HO3 := Lib.hid (Blk.new w3 24 #[.int .i64 old.id, .int .i64 old.unit, .string old.name, .string old.note, .slice B3 old.ext.length d3] rfl)
      have HB3 := Lib.hid ((HB2.out.grew g3).grew gal)
      have HR3 := Lib.hid ((HR2.out.grew g3).grew gal)
      have HG3 := Lib.hid ((HG2.out.trans g3).trans gal)
      clear x0 x1 x2 hbl g3 gal hl3
      have x0 := HB3.out.cell 0
      have x1 := HB3.out.cell 1
      have x2 := HB3.out.cell 2
      have hbl := HB3.out.lt
      have r0 := HR3.out.cell 0
      have r1 := HR3.out.cell 1
      have hrl := HR3.out.lt
      go_wp2_with fail
      refine (HCF.out _ HG3.out).mono ?_
      rintro e w4 ⟨A2, c2, ys, rfl, ht4, g4⟩
      have gal : Grew w4 (w4.alloc (.cells #[.string U.name, .int .i64 U.tracks, .slice A2 U.labels.length c2] 34)) := (Grew.refl w4).alloc _
      have HT4 := Lib.hid (ht4.hold gal)
      have HU4 := Lib.hid (Blk.new w4 34 #[.string U.name, .int .i64 U.tracks, .slice A2 U.labels.length c2] rfl)
      have HB4 := Lib.hid ((HB3.out.grew g4).grew gal)
      have HR4 := Lib.hid ((HR3.out.grew g4).grew gal)
      have HO4 := Lib.hid ((HO3.out.grew g4).grew gal)
      have HL4 := Lib.hid ((HL3.out.hold g4).hold gal)
      have HG4 := Lib.hid ((HG3.out.trans g4).trans gal)
      clear x0 x1 x2 hbl r0 r1 hrl g4 gal ht4
      have u2 := HU4.out.cell 2
      have hul := HU4.out.lt
      have x0 := HB4.out.cell 0
      have x1 := HB4.out.cell 1
      have x2 := HB4.out.cell 2
      have hbl := HB4.out.lt
      go_wp2_with fail
      refine (HVD.out _ HG4.out).mono ?_
      rintro e w5 ⟨rfl, g5⟩
      rw [HV.out]
      go_wp2_with fail
      go_ret
      exact ⟨rfl, HG4.out.trans g5⟩
    | true =>
    cases hu : (unit == 0) with
    | true =>
      go_enter Try.func4, Try.ntmps4
      go_wp2_with fail
      refine (awake_con _).mono ?_
      rintro e w1 ⟨rfl, g1⟩
      have HB1 := Lib.hid (HB0.out.grew g1)
      have HG1 := Lib.hid (HG0.out.trans g1)
      have x0 := HB1.out.cell 0
      have x1 := HB1.out.cell 1
      have x2 := HB1.out.cell 2
      have hbl := HB1.out.lt
      clear g1
      go_wp2_with fail
      refine (HFW.out _ HG1.out).mono ?_
      rintro e w2 ⟨rfl, g2⟩
      rw [HF.out]
      clear x0 x1 x2 hbl
      have HB2 := Lib.hid ((HB1.out.grew g2).alloc (.cells #[.int .i64 id, .int .i64 unit] 37))
      have HR2 := Lib.hid (Blk.new w2 37 #[.int .i64 id, .int .i64 unit] rfl)
      have HG2 := Lib.hid ((HG1.out.trans g2).alloc (.cells #[.int .i64 id, .int .i64 unit] 37))
      have x0 := HB2.out.cell 0
      have x1 := HB2.out.cell 1
      have x2 := HB2.out.cell 2
      have hbl := HB2.out.lt
      clear g2
      go_wp2_with fail
      refine (HFD.out _ HG2.out id unit _ _ HOLD.out).mono ?_
      rintro e w3 ⟨B3, d3, rfl, hl3, g3⟩
      have gal : Grew w3 (w3.alloc (.cells #[.int .i64 old.id, .int .i64 old.unit, .string old.name, .string old.note, .slice B3 old.ext.length d3] 24)) := (Grew.refl w3).alloc _
      have HL3 := Lib.hid (hl3.hold gal)
      have HO3 := Lib.hid (Blk.new w3 24 #[.int .i64 old.id, .int .i64 old.unit, .string old.name, .string old.note, .slice B3 old.ext.length d3] rfl)
      have HB3 := Lib.hid ((HB2.out.grew g3).grew gal)
      have HR3 := Lib.hid ((HR2.out.grew g3).grew gal)
      have HG3 := Lib.hid ((HG2.out.trans g3).trans gal)
      clear x0 x1 x2 hbl g3 gal hl3
      have x0 := HB3.out.cell 0
      have x1 := HB3.out.cell 1
      have x2 := HB3.out.cell 2
      have hbl := HB3.out.lt
      have r0 := HR3.out.cell 0
      have r1 := HR3.out.cell 1
      have hrl := HR3.out.lt
      go_wp2_with fail
      refine (HCF.out _ HG3.out).mono ?_
      rintro e w4 ⟨A2, c2, ys, rfl, ht4, g4⟩
      have gal : Grew w4 (w4.alloc (.cells #[.string U.name, .int .i64 U.tracks, .slice A2 U.labels.length c2] 34)) := (Grew.refl w4).alloc _
      have HT4 := Lib.hid (ht4.hold gal)
      have HU4 := Lib.hid (Blk.new w4 34 #[.string U.name, .int .i64 U.tracks, .slice A2 U.labels.length c2] rfl)
      have HB4 := Lib.hid ((HB3.out.grew g4).grew gal)
      have HR4 := Lib.hid ((HR3.out.grew g4).grew gal)
      have HO4 := Lib.hid ((HO3.out.grew g4).grew gal)
      have HL4 := Lib.hid ((HL3.out.hold g4).hold gal)
      have HG4 := Lib.hid ((HG3.out.trans g4).trans gal)
      clear x0 x1 x2 hbl r0 r1 hrl g4 gal ht4
      have u2 := HU4.out.cell 2
      have hul := HU4.out.lt
      have x0 := HB4.out.cell 0
      have x1 := HB4.out.cell 1
      have x2 := HB4.out.cell 2
      have hbl := HB4.out.lt
      go_wp2_with fail
      refine (HVD.out _ HG4.out).mono ?_
      rintro e w5 ⟨rfl, g5⟩
      rw [HV.out]
      go_wp2_with fail
      go_ret
      exact ⟨rfl, HG4.out.trans g5⟩
    | false =>
      have hn4 : (note.size : Int) > 400 := by
        rcases HW2.out with h | h | h
        · cases h
        · rw [h] at hu; simp at hu
        · omega
      go_enter Try.func4, Try.ntmps4
      go_wp2_with fail
      refine (awake_con _).mono ?_
      rintro e w1 ⟨rfl, g1⟩
      have HB1 := Lib.hid (HB0.out.grew g1)
      have HG1 := Lib.hid (HG0.out.trans g1)
      have x0 := HB1.out.cell 0
      have x1 := HB1.out.cell 1
      have x2 := HB1.out.cell 2
      have hbl := HB1.out.lt
      clear g1
      go_wp2_with fail
      refine (HFW.out _ HG1.out).mono ?_
      rintro e w2 ⟨rfl, g2⟩
      rw [HF.out]
      clear x0 x1 x2 hbl
      have HB2 := Lib.hid ((HB1.out.grew g2).alloc (.cells #[.int .i64 id, .int .i64 unit] 37))
      have HR2 := Lib.hid (Blk.new w2 37 #[.int .i64 id, .int .i64 unit] rfl)
      have HG2 := Lib.hid ((HG1.out.trans g2).alloc (.cells #[.int .i64 id, .int .i64 unit] 37))
      have x0 := HB2.out.cell 0
      have x1 := HB2.out.cell 1
      have x2 := HB2.out.cell 2
      have hbl := HB2.out.lt
      clear g2
      go_wp2_with fail
      refine (HFD.out _ HG2.out id unit _ _ HOLD.out).mono ?_
      rintro e w3 ⟨B3, d3, rfl, hl3, g3⟩
      have gal : Grew w3 (w3.alloc (.cells #[.int .i64 old.id, .int .i64 old.unit, .string old.name, .string old.note, .slice B3 old.ext.length d3] 24)) := (Grew.refl w3).alloc _
      have HL3 := Lib.hid (hl3.hold gal)
      have HO3 := Lib.hid (Blk.new w3 24 #[.int .i64 old.id, .int .i64 old.unit, .string old.name, .string old.note, .slice B3 old.ext.length d3] rfl)
      have HB3 := Lib.hid ((HB2.out.grew g3).grew gal)
      have HR3 := Lib.hid ((HR2.out.grew g3).grew gal)
      have HG3 := Lib.hid ((HG2.out.trans g3).trans gal)
      clear x0 x1 x2 hbl g3 gal hl3
      have x0 := HB3.out.cell 0
      have x1 := HB3.out.cell 1
      have x2 := HB3.out.cell 2
      have hbl := HB3.out.lt
      have r0 := HR3.out.cell 0
      have r1 := HR3.out.cell 1
      have hrl := HR3.out.lt
      go_wp2_with fail
      refine (HCF.out _ HG3.out).mono ?_
      rintro e w4 ⟨A2, c2, ys, rfl, ht4, g4⟩
      have gal : Grew w4 (w4.alloc (.cells #[.string U.name, .int .i64 U.tracks, .slice A2 U.labels.length c2] 34)) := (Grew.refl w4).alloc _
      have HT4 := Lib.hid (ht4.hold gal)
      have HU4 := Lib.hid (Blk.new w4 34 #[.string U.name, .int .i64 U.tracks, .slice A2 U.labels.length c2] rfl)
      have HB4 := Lib.hid ((HB3.out.grew g4).grew gal)
      have HR4 := Lib.hid ((HR3.out.grew g4).grew gal)
      have HO4 := Lib.hid ((HO3.out.grew g4).grew gal)
      have HL4 := Lib.hid ((HL3.out.hold g4).hold gal)
      have HG4 := Lib.hid ((HG3.out.trans g4).trans gal)
      clear x0 x1 x2 hbl r0 r1 hrl g4 gal ht4
      have u2 := HU4.out.cell 2
      have hul := HU4.out.lt
      have x0 := HB4.out.cell 0
      have x1 := HB4.out.cell 1
      have x2 := HB4.out.cell 2
      have hbl := HB4.out.lt
      go_wp2_with fail
      refine (HVD.out _ HG4.out).mono ?_
      rintro e w5 ⟨rfl, g5⟩
      rw [HV.out]
      go_wp2_with fail
      go_ret
      exact ⟨rfl, HG4.out.trans g5⟩
  · subst her
    obtain ⟨l, hl1, hl2, hl3, hl4⟩ := confirm_facts T U id unit note hU
    rw [hold] at hl1
    injection hl1 with e1 e2
    subst e1; subst e2
    obtain ⟨⟨l3, b3⟩, hx3⟩ : ∃ p, fndT U id unit = p := ⟨_, rfl⟩
    rw [hx3] at hl3
    simp only at hl3
    subst hl3
    have husm := confirm_small T U id unit note 0 hU hsm
    have hol : old.ext.length ≤ 1000 := by have := fnd_len T hsm id unit; rw [hold] at this; exact this
    obtain ⟨kf, hkf⟩ : ∃ kf, refsT T = kf := ⟨_, rfl⟩
    have HL2 := Lib.hid hl2
    have HX3 := Lib.hid hx3
    have HKF := Lib.hid hkf
    have HL4X := Lib.hid hl4
    have HFU := Lib.hid (fun A2 c2 ys w1 (h : TabAt w1 A2 c2 ys U) i u l b hb => find_tab A2 c2 ys U w1 h husm _ rfl i u l b hb)
    have HSM := Lib.hid hsm
    have HUSM := Lib.hid husm
    have hkl : kf.length ≤ 1000 := by
      rw [← hkf]
      have h1 := (sortP_perm (rawR T.labels)).length_eq
      have h2 := rawR_len T.labels T.labels.length
      rw [List.take_length] at h2
      have := hsm.len
      show (sortP (rawR T.labels)).length ≤ 1000
      omega
    clear hl2 hx3 hkf hl4 hold hU hsm husm
    go_enter Try.func4, Try.ntmps4
    go_wp2_with fail
    refine (awake_con _).mono ?_
    rintro e w1 ⟨rfl, g1⟩
    have HB1 := Lib.hid (HB0.out.grew g1)
    have HG1 := Lib.hid (HG0.out.trans g1)
    have x0 := HB1.out.cell 0
    have x1 := HB1.out.cell 1
    have x2 := HB1.out.cell 2
    have hbl := HB1.out.lt
    clear g1
    go_wp2_with fail
    refine (HFW.out _ HG1.out).mono ?_
    rintro e w2 ⟨rfl, g2⟩
    rw [HF.out]
    clear x0 x1 x2 hbl
    have HB2 := Lib.hid ((HB1.out.grew g2).alloc (.cells #[.int .i64 id, .int .i64 unit] 37))
    have HR2 := Lib.hid (Blk.new w2 37 #[.int .i64 id, .int .i64 unit] rfl)
    have HG2 := Lib.hid ((HG1.out.trans g2).alloc (.cells #[.int .i64 id, .int .i64 unit] 37))
    have x0 := HB2.out.cell 0
    have x1 := HB2.out.cell 1
    have x2 := HB2.out.cell 2
    have hbl := HB2.out.lt
    clear g2
    go_wp2_with fail
    refine (HFD.out _ HG2.out id unit _ _ HOLD.out).mono ?_
    rintro e w3 ⟨B3, d3, rfl, hl3, g3⟩
    have gal : Grew w3 (w3.alloc (.cells #[.int .i64 old.id, .int .i64 old.unit, .string old.name, .string old.note, .slice B3 old.ext.length d3] 24)) := (Grew.refl w3).alloc _
    have HL3 := Lib.hid (hl3.hold gal)
    have HO3 := Lib.hid (Blk.new w3 24 #[.int .i64 old.id, .int .i64 old.unit, .string old.name, .string old.note, .slice B3 old.ext.length d3] rfl)
    have HB3 := Lib.hid ((HB2.out.grew g3).grew gal)
    have HR3 := Lib.hid ((HR2.out.grew g3).grew gal)
    have HG3 := Lib.hid ((HG2.out.trans g3).trans gal)
    clear x0 x1 x2 hbl g3 gal hl3
    have x0 := HB3.out.cell 0
    have x1 := HB3.out.cell 1
    have x2 := HB3.out.cell 2
    have hbl := HB3.out.lt
    have r0 := HR3.out.cell 0
    have r1 := HR3.out.cell 1
    have hrl := HR3.out.lt
    go_wp2_with fail
    refine (HCF.out _ HG3.out).mono ?_
    rintro e w4 ⟨A2, c2, ys, rfl, ht4, g4⟩
    have gal : Grew w4 (w4.alloc (.cells #[.string U.name, .int .i64 U.tracks, .slice A2 U.labels.length c2] 34)) := (Grew.refl w4).alloc _
    have HT4 := Lib.hid (ht4.hold gal)
    have HU4 := Lib.hid (Blk.new w4 34 #[.string U.name, .int .i64 U.tracks, .slice A2 U.labels.length c2] rfl)
    have HB4 := Lib.hid ((HB3.out.grew g4).grew gal)
    have HR4 := Lib.hid ((HR3.out.grew g4).grew gal)
    have HO4 := Lib.hid ((HO3.out.grew g4).grew gal)
    have HL4 := Lib.hid ((HL3.out.hold g4).hold gal)
    have HG4 := Lib.hid ((HG3.out.trans g4).trans gal)
    clear x0 x1 x2 hbl r0 r1 hrl g4 gal ht4
    have u0 := HU4.out.cell 0
    have u1 := HU4.out.cell 1
    have u2 := HU4.out.cell 2
    have hul := HU4.out.lt
    go_wp2_with fail
    refine (HFU.out A2 c2 ys _ HT4.out id 0 _ _ HL2.out).mono ?_
    rintro e w5 ⟨B5, d5, rfl, hl5, g5⟩
    have gal : Grew w5 (w5.alloc (.cells #[.int .i64 old.id, .int .i64 0, .string old.name, .string note, .slice B5 old.ext.length d5] 24)) := (Grew.refl w5).alloc _
    have HL5 := Lib.hid (hl5.hold gal)
    have HN5 := Lib.hid (Blk.new w5 24 #[.int .i64 old.id, .int .i64 0, .string old.name, .string note, .slice B5 old.ext.length d5] rfl)
    have HB5 := Lib.hid ((HB4.out.grew g5).grew gal)
    have HR5 := Lib.hid ((HR4.out.grew g5).grew gal)
    have HU5 := Lib.hid ((HU4.out.grew g5).grew gal)
    have HO5 := Lib.hid ((HO4.out.grew g5).grew gal)
    have HT5 := Lib.hid ((HT4.out.hold g5).hold gal)
    have HLO5 := Lib.hid ((HL4.out.hold g5).hold gal)
    have HG5 := Lib.hid ((HG4.out.trans g5).trans gal)
    clear u0 u1 u2 hul g5 gal hl5
    have u0 := HU5.out.cell 0
    have u1 := HU5.out.cell 1
    have u2 := HU5.out.cell 2
    have hul := HU5.out.lt
    have r0 := HR5.out.cell 0
    have r1 := HR5.out.cell 1
    have hrl := HR5.out.lt
    go_wp2_with fail
    refine (HFU.out A2 c2 ys _ HT5.out id unit _ _ HX3.out).mono ?_
    rintro e w6 ⟨B6, d6, rfl, hl6, g6⟩
    have gal : Grew w6 (w6.alloc (.cells #[.int .i64 l3.id, .int .i64 l3.unit, .string l3.name, .string l3.note, .slice B6 l3.ext.length d6] 24)) := (Grew.refl w6).alloc _
    have HL6 := Lib.hid ((HL5.out.hold g6).hold gal)
    have HN6 := Lib.hid ((HN5.out.grew g6).grew gal)
    have HB6 := Lib.hid ((HB5.out.grew g6).grew gal)
    have HU6 := Lib.hid ((HU5.out.grew g6).grew gal)
    have HO6 := Lib.hid ((HO5.out.grew g6).grew gal)
    have HT6 := Lib.hid ((HT5.out.hold g6).hold gal)
    have HLO6 := Lib.hid ((HLO5.out.hold g6).hold gal)
    have HG6 := Lib.hid ((HG5.out.trans g6).trans gal)
    clear u0 u1 u2 hul r0 r1 hrl g6 gal hl6
    have n2 := HN6.out.cell 2
    have n3 := HN6.out.cell 3
    have n4 := HN6.out.cell 4
    have hnl := HN6.out.lt
    have o2 := HO6.out.cell 2
    have o4 := HO6.out.cell 4
    have hol6 := HO6.out.lt
    go_wp2_with fail
    refine (same_val B5 B3 d5 d3 old.ext.length old.ext.length old.ext old.ext _ rfl rfl (by omega) (by omega) HL6.out.runs HLO6.out.runs true (by simp)).mono ?_
    rintro e w7 ⟨rfl, g7⟩
    have HB7 := Lib.hid (HB6.out.grew g7)
    have HU7 := Lib.hid (HU6.out.grew g7)
    have HT7 := Lib.hid (HT6.out.hold g7)
    have HG7 := Lib.hid (HG6.out.trans g7)
    clear n2 n3 n4 hnl o2 o4 hol6 g7
    have x0 := HB7.out.cell 0
    have x1 := HB7.out.cell 1
    have x2 := HB7.out.cell 2
    have hbl := HB7.out.lt
    go_wp2_with fail
    refine (HRF.out _ HG7.out kf HKF.out).mono ?_
    rintro e w8 ⟨A8, c8, rfl, hl8, g8⟩
    have HB8 := Lib.hid (HB7.out.grew g8)
    have HU8 := Lib.hid (HU7.out.grew g8)
    have HT8 := Lib.hid (HT7.out.hold g8)
    have HG8 := Lib.hid (HG7.out.trans g8)
    have HLF := Lib.hid hl8
    clear x0 x1 x2 hbl g8 hl8
    go_wp2_with fail
    go_loopg [123] kf.length (fun gk i wr => ∃ k : Nat, k ≤ kf.length ∧ gk = kf.length - k ∧ i = .int .i64 k ∧ Grew w8 wr)
    case atStart => exact ⟨0, by omega, by omega, rfl, Grew.refl _⟩
    case round =>
      obtain ⟨k, hk, hgk, rfl, hg⟩ := hrel
      have HGK := Lib.hid hgk
      have HG := Lib.hid hg
      have hgs := hg.size
      clear hgk
      by_cases hlt : k < kf.length
      · obtain ⟨b8, o8, rfl, hb8, hc8⟩ := HLF.out (by rw [List.length_map]; omega)
        obtain ⟨⟨xi, xu⟩, hxk⟩ : ∃ p, kf[k] = p := ⟨_, rfl⟩
        have hrow : (kf.map refC)[k]? = some [.int .i64 xi, .int .i64 xu] := by rw [List.getElem?_map, List.getElem?_eq_getElem hlt, hxk]; rfl
        have q0 : wr.cell? ⟨b8, o8 + k * 2, none⟩ = some (.int .i64 xi) := by rw [hg.cellEq _ _ hb8]; exact hc8 k _ hrow 0 _ rfl
        have q1 : wr.cell? ⟨b8, o8 + k * 2 + 1, none⟩ = some (.int .i64 xu) := by rw [hg.cellEq _ _ hb8]; exact hc8 k _ hrow 1 _ rfl
        have hb8r := Nat.lt_of_lt_of_le hb8 hgs
        have gal : Grew wr (wr.alloc (.cells #[.int .i64 xi, .int .i64 xu] 37)) := (Grew.refl wr).alloc _
        have HGR := Lib.hid (hg.trans gal)
        have HXR := Lib.hid (Blk.new wr 37 #[.int .i64 xi, .int .i64 xu] rfl)
        obtain ⟨⟨la, ba⟩, hfa⟩ : ∃ p, fndT T xi xu = p := ⟨_, rfl⟩
        obtain ⟨⟨lb, bb⟩, hfb⟩ : ∃ p, fndT U xi xu = p := ⟨_, rfl⟩
        have HFA := Lib.hid hfa
        have HFB := Lib.hid hfb
        have hla1 : la.ext.length ≤ 1000 := by have := fnd_len T HSM.out xi xu; rw [hfa] at this; exact this
        have hlb1 : lb.ext.length ≤ 1000 := by have := fnd_len U HUSM.out xi xu; rw [hfb] at this; exact this
        have HSAME := Lib.hid (show xi ≠ id → la = lb from fun hne => by
          have := HL4X.out xi xu hne
          rw [hfa, hfb] at this
          injection this)
        have HBr := Lib.hid (HB8.out.grew HGR.out)
        have HUr := Lib.hid (HU8.out.grew HGR.out)
        have HTr := Lib.hid (HT8.out.hold HGR.out)
        have HGr := Lib.hid (HG8.out.trans HGR.out)
        have x0 := HBr.out.cell 0
        have x1 := HBr.out.cell 1
        have x2 := HBr.out.cell 2
        have hbl := HBr.out.lt
        clear hfa hfb hrow hxk hc8 gal hg
        go_wp2_with fail
        refine (HFD.out _ HGr.out xi xu _ _ HFA.out).mono ?_
        rintro e w9 ⟨B9, d9, rfl, hl9, g9⟩
        have gal : Grew w9 (w9.alloc (.cells #[.int .i64 la.id, .int .i64 la.unit, .string la.name, .string la.note, .slice B9 la.ext.length d9] 24)) := (Grew.refl w9).alloc _
        have HL9 := Lib.hid (hl9.hold gal)
        have HN9 := Lib.hid (Blk.new w9 24 #[.int .i64 la.id, .int .i64 la.unit, .string la.name, .string la.note, .slice B9 la.ext.length d9] rfl)
        have HU9 := Lib.hid ((HUr.out.grew g9).grew gal)
        have HX9 := Lib.hid ((HXR.out.grew g9).grew gal)
        have HT9 := Lib.hid ((HTr.out.hold g9).hold gal)
        have HG9 := Lib.hid ((HGR.out.trans g9).trans gal)
        clear x0 x1 x2 hbl q0 q1 g9 gal hl9
        have u0 := HU9.out.cell 0
        have u1 := HU9.out.cell 1
        have u2 := HU9.out.cell 2
        have hul := HU9.out.lt
        have q0 := HX9.out.cell 0
        have q1 := HX9.out.cell 1
        have hql := HX9.out.lt
        go_wp2_with fail
        refine (HFU.out A2 c2 ys _ HT9.out xi xu _ _ HFB.out).mono ?_
        rintro e w10 ⟨B10, d10, rfl, hl10, g10⟩
        have gal : Grew w10 (w10.alloc (.cells #[.int .i64 lb.id, .int .i64 lb.unit, .string lb.name, .string lb.note, .slice B10 lb.ext.length d10] 24)) := (Grew.refl w10).alloc _
        have HL10 := Lib.hid (hl10.hold gal)
        have HM10 := Lib.hid (Blk.new w10 24 #[.int .i64 lb.id, .int .i64 lb.unit, .string lb.name, .string lb.note, .slice B10 lb.ext.length d10] rfl)
        have HN10 := Lib.hid ((HN9.out.grew g10).grew gal)
        have HX10 := Lib.hid ((HX9.out.grew g10).grew gal)
        have HLA10 := Lib.hid ((HL9.out.hold g10).hold gal)
        have HG10 := Lib.hid ((HG9.out.trans g10).trans gal)
        clear u0 u1 u2 hul q0 q1 hql g10 gal hl10
        have q0 := HX10.out.cell 0
        have hql := HX10.out.lt
        by_cases hxi : xi = id
        · have hb := nid2 xi id hxi
          go_wp2_with fail
          go_roundg (kf.length - (k + 1))
          case measure => rw [HGK.out]; omega
          case rel => exact ⟨k + 1, by omega, by omega, by go_num, HG10.out⟩
        · have hb := nid xi id hxi
          have hab := HSAME.out hxi
          have a0 := HN10.out.cell 0
          have a1 := HN10.out.cell 1
          have a2 := HN10.out.cell 2
          have a3 := HN10.out.cell 3
          have a4 := HN10.out.cell 4
          have hal := HN10.out.lt
          have m0 := HM10.out.cell 0
          have m1 := HM10.out.cell 1
          have m2 := HM10.out.cell 2
          have m3 := HM10.out.cell 3
          have m4 := HM10.out.cell 4
          have hml := HM10.out.lt
          have HAB := Lib.hid (show eqL la lb = true from by rw [hab]; exact eqL_self lb)
          clear hab
          go_wp2_with fail
          refine (requal_any B9 B10 d9 d10 la lb _ HLA10.out HL10.out (by omega) (by omega)).mono ?_
          rintro e w11 ⟨rfl, g11⟩
          rw [HAB.out]
          go_wp2_with fail
          go_roundg (kf.length - (k + 1))
          case measure => rw [HGK.out]; omega
          case rel => exact ⟨k + 1, by omega, by omega, by go_num, HG10.out.trans g11⟩
      · go_wp2_with fail
        go_ret
        exact ⟨rfl, HG8.out.trans HG.out⟩
end
end Go.Proofs.Ytnlaogneceanoaa
