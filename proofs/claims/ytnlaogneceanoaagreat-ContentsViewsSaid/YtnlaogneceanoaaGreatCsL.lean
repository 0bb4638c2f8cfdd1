/- Chapter 8: awake. Chapter 8: a table as an argument; Few. Chapter 8: SameRefs for one list; Same of a table and itself; a reference as an argument. Chapter 8, plain: what Confirm does to the labels of a valid table. Chapter 8: ContentsViews. -/
import Derived.Test.YtnlaogneceanoaaGreatCsD
import Derived.Test.YtnlaogneceanoaaGreatCsH
import Derived.Test.YtnlaogneceanoaaGreatCsI
import Derived.Test.YtnlaogneceanoaaGreatCsJ
import Derived.Test.YtnlaogneceanoaaGreatCsK
namespace Go.Proofs.YtnlaogneceanoaaGreat
set_option linter.unusedVariables false
set_option linter.unusedSimpArgs false
set_option linter.unusedSectionVars false
open Go.RowKit
theorem small_of (T : Tab) (h1 : T.labels.length ≤ 1000) (h2 : T.labels.all (fun l => decide (l.ext.length ≤ 1000)) = true) : SmallT T :=
  ⟨h1, fun l hl => by have := List.all_eq_true.1 h2 l hl; simpa using this⟩
/-- A variable that holds a table gets another one. -/
theorem Blk.tab {w : World} {g : Nat} {t : TypeId} {s0 s1 : ByteArray} {i0 i1 : Int} {a0 a1 : Option Addr} {n0 c0 n1 c1 : Nat} (h : Blk w g t #[.string s0, .int .i64 i0, .slice a0 n0 c0]) : Blk (((w.setCell ⟨g, 0, none⟩ (.string s1)).setCell ⟨g, 1, none⟩ (.int .i64 i1)).setCell ⟨g, 2, none⟩ (.slice a1 n1 c1)) g t #[.string s1, .int .i64 i1, .slice a1 n1 c1] :=
  ((h.set_ 0 _).set_ 1 _).set_ 2 _
theorem tab3_turned (w : World) (g : Nat) (a b c : Value) : Turned (fun x => x = g) w (((w.setCell ⟨g, 0, none⟩ a).setCell ⟨g, 1, none⟩ b).setCell ⟨g, 2, none⟩ c) :=
  ((set_turned w g 0 a).trans (set_turned _ g 1 b)).trans (set_turned _ g 2 c)
theorem Grew.tab3 {a w : World} (h : Grew a w) {g : Nat} (hg : a.heap.size ≤ g) (x y z : Value) : Grew a (((w.setCell ⟨g, 0, none⟩ x).setCell ⟨g, 1, none⟩ y).setCell ⟨g, 2, none⟩ z) := ((h.setCell (p := ⟨g, 0, none⟩) hg x).setCell (p := ⟨g, 1, none⟩) hg y).setCell (p := ⟨g, 2, none⟩) hg z
set_option maxRecDepth 100000 in
set_option maxHeartbeats 8000000 in
theorem awake_con (w : World) : Calls Tryz.prog 6 #[] w fun e w' => e = .returned (.bool true) ∧ Grew w w' := by
  have HNEW := Lib.hid (fun w => new_tab awS 16 w (by decide) (by omega) (by omega) awT1 0 aw_new)
  have HCR := Lib.hid (fun A c xs w (h : TabAt w A c xs awT1) => create_tab A c xs awT1 5 2 w h (small_of _ (by decide) (by decide)) ⟨#[65]⟩ ⟨#[]⟩ (by decide) (by decide) 3 (by omega) (by omega) awT2 0 aw_create)
  have HCF := Lib.hid (fun A c xs w (h : TabAt w A c xs awT2) => confirm_tab A c xs awT2 5 2 w h (small_of _ (by decide) (by decide)) awN (by decide) awT3 0 aw_confirm)
  have HFD := Lib.hid (fun A c xs w (h : TabAt w A c xs awT3) => find_tab A c xs awT3 w h (small_of _ (by decide) (by decide)) _ rfl 5 0 ⟨5, 0, ⟨#[65]⟩, awN, [(4, 3)]⟩ true aw_find)
  have hn3 : awT3.labels.length = 3 := rfl
  have hnl : awN.toList = [110, 111, 116, 101] := by kernel_rfl
  go_enter Tryz.func6, Tryz.ntmps6
  go_wp2_with fail
  refine (HNEW.out _).mono ?_
  rintro e w1 ⟨A1, c1, xs1, rfl, ht1, g1⟩
  have ga : Grew w1 (w1.alloc (.cells #[.string awT1.name, .int .i64 awT1.tracks, .slice A1 awT1.labels.length c1] 24)) := (Grew.refl w1).alloc _
  have HT1 := Lib.hid (ht1.hold ga)
  have HB1 := Lib.hid (Blk.new w1 24 #[.string awT1.name, .int .i64 awT1.tracks, .slice A1 awT1.labels.length c1] rfl)
  have HG1 := Lib.hid (g1.trans ga)
  have HW1 := Lib.hid g1.size
  clear ht1 ga g1
  go_wp2_with fail
  refine (HCR.out A1 c1 xs1 _ HT1.out).mono ?_
  rintro e w2 ⟨A2, c2, xs2, rfl, ht2, g2⟩
  have hb2 := HB1.out.grew g2
  have z0 := hb2.cell 0
  have z1 := hb2.cell 1
  have z2 := hb2.cell 2
  have f0 := hb2.frozen 0
  have f1 := hb2.frozen 1
  have f2 := hb2.frozen 2
  have hzl := hb2.lt
  have HT2 := Lib.hid (ht2.apart hb2 (tab3_turned w2 w1.heap.size (.string awT2.name) (.int .i64 awT2.tracks) (.slice A2 awT2.labels.length c2)))
  have HB2 := Lib.hid (hb2.tab (s1 := awT2.name) (i1 := awT2.tracks) (a1 := A2) (n1 := awT2.labels.length) (c1 := c2))
  have HG2 := Lib.hid ((HG1.out.trans g2).tab3 HW1.out (.string awT2.name) (.int .i64 awT2.tracks) (.slice A2 awT2.labels.length c2))
  clear ht2 g2 hb2
  go_wp2_with fail
  refine (HCF.out A2 c2 xs2 _ HT2.out).mono ?_
  rintro e w3 ⟨A3, c3, xs3, rfl, ht3, g3⟩
  clear z0 z1 z2 f0 f1 f2 hzl
  have hb3 := HB2.out.grew g3
  have z0 := hb3.cell 0
  have z1 := hb3.cell 1
  have z2 := hb3.cell 2
  have f0 := hb3.frozen 0
  have f1 := hb3.frozen 1
  have f2 := hb3.frozen 2
  have hzl := hb3.lt
  have HT3 := Lib.hid (ht3.apart hb3 (tab3_turned w3 w1.heap.size (.string awT3.name) (.int .i64 awT3.tracks) (.slice A3 awT3.labels.length c3)))
  have HB3 := Lib.hid (hb3.tab (s1 := awT3.name) (i1 := awT3.tracks) (a1 := A3) (n1 := awT3.labels.length) (c1 := c3))
  have HG3 := Lib.hid ((HG2.out.trans g3).tab3 HW1.out (.string awT3.name) (.int .i64 awT3.tracks) (.slice A3 awT3.labels.length c3))
  clear ht3 g3 hb3
  go_wp2_with fail
  refine (HFD.out A3 c3 xs3 _ HT3.out).mono ?_
  rintro e w4 ⟨B4, d4, rfl, hl4, g4⟩
  clear z0 z1 z2 f0 f1 f2 hzl
  have gb : Grew w4 (w4.alloc (.cells #[.int .i64 5, .int .i64 0, .string ⟨#[65]⟩, .string awN, .slice B4 1 d4] 31)) := (Grew.refl w4).alloc _
  have HL4 := Lib.hid (hl4.hold gb)
  have HN4 := Lib.hid (Blk.new w4 31 #[.int .i64 5, .int .i64 0, .string ⟨#[65]⟩, .string awN, .slice B4 1 d4] rfl)
  have HB4 := Lib.hid ((HB3.out.grew g4).grew gb)
  have HG4 := Lib.hid ((HG3.out.trans g4).trans gb)
  clear hl4 gb g4
  go_wp2_with fail
  refine (sector_lab B4 d4 _ _ HL4.out (by decide) 9 (by omega) (by omega) 41 true aw_sector).mono ?_
  rintro e w5 ⟨rfl, g5⟩
  have hn5 := HN4.out.grew g5
  have y3 := hn5.cell 3
  have y4 := hn5.cell 4
  have hyl := hn5.lt
  have hb5 := HB4.out.grew g5
  have z2 := hb5.cell 2
  have hzl := hb5.lt
  have ga5 : Grew w5 (w5.alloc (.cells #[.int .i64 4, .int .i64 3] 65)) := (Grew.refl w5).alloc _
  have r5 : RunsAt (w5.alloc (.cells #[.int .i64 4, .int .i64 3] 65)) (w5.alloc (.cells #[.int .i64 4, .int .i64 3] 65)).heap.size (some ⟨w5.heap.size, 0, none⟩) [(4, 3)] := blk_runs (Blk.new w5 _ _ rfl) rfl (by simp [okRun])
  have HS := Lib.hid (same_val B4 (some ⟨w5.heap.size, 0, none⟩) d4 1 1 1 [(4, 3)] [(4, 3)] _ rfl rfl (by decide) (by decide) ((HL4.out.hold g5).hold ga5).runs r5 true (by decide))
  have HB6 := Lib.hid (hb5.grew ga5)
  have HG5 := Lib.hid ((HG4.out.trans g5).trans ga5)
  clear r5 ga5 hn5 hb5 g5
  go_wp2_with fail
  refine HS.out.mono ?_
  rintro e w6 ⟨rfl, g6⟩
  clear z2 hzl
  have hb6 := HB6.out.grew g6
  have z2 := hb6.cell 2
  have hzl := hb6.lt
  go_wp2_with fail
  go_ret
  exact ⟨rfl, HG5.out.trans g6⟩
end Go.Proofs.YtnlaogneceanoaaGreat
namespace Go.Proofs.YtnlaogneceanoaaGreat
set_option linter.unusedVariables false
set_option linter.unusedSimpArgs false
set_option linter.unusedSectionVars false
open Go.ChangeShapes Go.WideShapes Go.ChangeAt Go.RowKit Go.Deep
attribute [local go_sem ↓] Go.wp_at_zero Go.wp_at_succ
section
variable {H : Type} {enc : TypeId × Value → H} {w : World}
set_option maxRecDepth 100000 in
theorem open_tabC {n : Nat} {cs : List Value} {y : DataW H × List MemPlace} (hlen : cs.length = 3) (h : DataW.trod enc Tryz.prog w 0 (fun _ => true) true n 24 cs = some y) :
    ∃ A c, ∃ T : Tab, cs = [.string T.name, .int .i64 T.tracks, .slice A T.labels.length c] ∧ ∃ xs, TabAt w A c xs T := by
  have hf := struct_fields Tryz.underlying24 (by kernel_rfl) h
  obtain ⟨v0, _, _, e0, f0⟩ := hf 0 _ rfl (by omega)
  obtain ⟨v1, _, _, e1, f1⟩ := hf 1 _ rfl (by omega)
  obtain ⟨v2, _, _, e2, f2⟩ := hf 2 _ rfl (by omega)
  obtain ⟨n0, hn0, _, w0⟩ := DataW.trod_string Tryz.underlying9 f0
  obtain ⟨n1, hn1, _, w1⟩ := DataW.trod_int Tryz.underlying3 f1
  obtain ⟨A, c, xs, rfl, h1, h2, h3, h4⟩ := open_listF (α := LabE) (sz := 5) Tryz.underlying22 (by kernel_rfl) (by omega) labC (fun x => LabAt w x.A x.c x.l) (fun n cs y hlen h => by
      obtain ⟨A, c, l, hcs, hl⟩ := open_labelC hlen h
      exact ⟨⟨A, c, l⟩, hl, hcs⟩) f2
  injection hn0 with hn0 _
  injection hn1 with hn1 _
  subst hn0; subst hn1
  have b1 := wf_i64 w1
  unfold maxLen at w0
  refine ⟨A, c, ⟨n0, n1, xs.map (·.l)⟩, ?_, xs, ⟨h3, h4, h1, h2, rfl, b1.1, b1.2, by simpa using w0⟩⟩
  match cs, hlen with
  | [x0, x1, x2], _ =>
    simp at e0 e1 e2
    rw [e0, e1, e2]
    simp
set_option maxRecDepth 100000 in
theorem open_tab {r : Reach} {b0 : Nat} {v : Value} {d : DataW H} {ps : List MemPlace} (hv : Value.okWide Tryz.prog w r b0 24 v) (hd : DataW.Trod enc Tryz.prog w 0 (fun _ => true) true 24 v d ps) :
    ∃ A c, ∃ T : Tab, v = .agg #[.string T.name, .int .i64 T.tracks, .slice A T.labels.length c] ∧ ∃ xs, TabAt w A c xs T := by
  obtain ⟨cs, rfl, hsz⟩ := okWide_struct Tryz.underlying24 hv
  obtain ⟨fuel, hf⟩ := hd
  obtain ⟨A, c, T, hcs, h⟩ := open_tabC (cs := cs.toList) (by rw [Array.length_toList, hsz]; kernel_rfl) hf
  refine ⟨A, c, T, ?_, h⟩
  congr 1
  exact Array.toList_inj.1 hcs
end
def fewT (T : Tab) : Bool := T.labels.all fewL && (decide (T.name.size ≤ 100) && decide (T.labels.length ≤ 40))
theorem fewT_facts {T : Tab} (h : fewT T = true) : SmallT T ∧ T.name.size ≤ 100 ∧ T.labels.length ≤ 40 ∧ ∀ l ∈ T.labels, fewL l = true := by
  unfold fewT at h
  simp only [Bool.and_eq_true, decide_eq_true_eq, List.all_eq_true] at h
  obtain ⟨h1, h2, h3⟩ := h
  exact ⟨⟨by omega, fun l hl => by have := (fewL_len l (h1 l hl)).2.2; omega⟩, h2, h3, h1⟩
set_option maxRecDepth 100000 in
set_option maxHeartbeats 4000000 in
theorem fewT_any (A : Option Addr) (c : Nat) (xs : List LabE) (T : Tab) (w : World) (h : TabAt w A c xs T) :
    Calls Tryz.prog 7 #[.agg #[.string T.name, .int .i64 T.tracks, .slice A T.labels.length c]] w fun e w' => e = .returned (.bool (fewT T)) ∧ Grew w w' := by
  have hnm := h.name
  have hll : T.labels.length ≤ 9223372036854775807 := by rw [← h.xlen]; exact Nat.le_trans h.len h.cap
  have hg0 := (Grew.refl w).alloc (.cells #[.string T.name, .int .i64 T.tracks, .slice A T.labels.length c] 24)
  have hb0 := Blk.new w 24 #[.string T.name, .int .i64 T.tracks, .slice A T.labels.length c] rfl
  have HTB := Lib.hid h
  have HFE := Lib.hid (show fewT T = (T.labels.all fewL && (decide (T.name.size ≤ 100) && decide (T.labels.length ≤ 40))) from rfl)
  clear h
  have x2 := hb0.cell 2
  go_enter Tryz.func7, Tryz.ntmps7
  go_wp2_with fail
  go_loopg [3] T.labels.length (fun gk i wr => ∃ k : Nat, k ≤ T.labels.length ∧ gk = T.labels.length - k ∧ i = .int .i64 k ∧ (∀ j (hj : j < T.labels.length), j < k → fewL T.labels[j] = true) ∧ Blk wr w.heap.size 24 #[.string T.name, .int .i64 T.tracks, .slice A T.labels.length c] ∧ Grew w wr)
  case atStart => exact ⟨0, by omega, by omega, rfl, fun j _ h => by omega, hb0, hg0⟩
  case round =>
    obtain ⟨k, hk, hgk, rfl, hall, hb, hg⟩ := hrel
    have HGK := Lib.hid hgk
    have HA := Lib.hid hall
    have HG := Lib.hid hg
    have HB := Lib.hid hb
    clear x2
    have x0 := hb.cell 0
    have x2 := hb.cell 2
    have hbl0 := hb.lt
    clear hgk hall hb0 hg0
    by_cases hlt : k < T.labels.length
    · obtain ⟨b, off, B, d, l, rfl, hbl, hxk, hv, hla, c0, c1, c2, c3, c4⟩ := (HTB.out.hold hg).at_ hlt
      have HF := Lib.hid (few_any B d l wr hla)
      have HV := Lib.hid hv
      clear hv hxk hla hb hg
      go_wp2_with fail
      refine HF.out.mono ?_
      rintro e w3 ⟨rfl, g3⟩
      cases hfl : fewL l with
      | false =>
        have HE := Lib.hid (show fewT T = false from by
          rw [HFE.out]
          have : T.labels.all fewL = false := List.all_eq_false.2 ⟨T.labels[k], List.getElem_mem hlt, by rw [HV.out, hfl]; simp⟩
          rw [this]; rfl)
        clear hfl
        go_wp2_with fail
        go_ret
        exact ⟨ret_bool (by rw [HE.out]), HG.out.trans g3⟩
      | true =>
        have HN := Lib.hid (show ∀ j (hj : j < T.labels.length), j < k + 1 → fewL T.labels[j] = true from fun j hj hjk => by
          by_cases hjk' : j = k
          · subst hjk'; rw [HV.out]; exact hfl
          · exact HA.out j hj (by omega))
        have HB3 := Lib.hid (HB.out.grew g3)
        have HG3 := Lib.hid (HG.out.trans g3)
        clear hfl g3
        go_wp2_with fail
        go_roundg (T.labels.length - (k + 1))
        case measure => rw [HGK.out]; omega
        case rel => exact ⟨k + 1, by omega, by omega, by go_num, HN.out, HB3.out, HG3.out⟩
    · have HAL := Lib.hid (show T.labels.all fewL = true from List.all_eq_true.2 (fun l hl => by
        obtain ⟨j, hj, rfl⟩ := List.getElem_of_mem hl
        exact HA.out j hj (by omega)))
      clear hb hg
      by_cases h1 : T.name.size ≤ 100
      · have h1i : (T.name.size : Int) ≤ 100 := by omega
        by_cases h2 : T.labels.length ≤ 40
        · have h2i : (T.labels.length : Int) ≤ 40 := by omega
          have HE := Lib.hid (HFE.out.trans (by rw [HAL.out, decide_eq_true h1, decide_eq_true h2]; rfl) : fewT T = true)
          go_wp2_with fail
          go_ret
          exact ⟨ret_bool (by rw [HE.out]), HG.out⟩
        · have h2i : ¬ (T.labels.length : Int) ≤ 40 := by omega
          have HE := Lib.hid (HFE.out.trans (by rw [HAL.out, decide_eq_true h1, decide_eq_false h2]; rfl) : fewT T = false)
          go_wp2_with fail
          go_ret
          exact ⟨ret_bool (by rw [HE.out]), HG.out⟩
      · have h1i : ¬ (T.name.size : Int) ≤ 100 := by omega
        have HE := Lib.hid (HFE.out.trans (by rw [HAL.out, decide_eq_false h1]; rfl) : fewT T = false)
        go_wp2_with fail
        go_ret
        exact ⟨ret_bool (by rw [HE.out]), HG.out⟩
end Go.Proofs.YtnlaogneceanoaaGreat
namespace Go.Proofs.YtnlaogneceanoaaGreat
set_option linter.unusedVariables false
set_option linter.unusedSimpArgs false
set_option linter.unusedSectionVars false
open Go.ChangeShapes Go.WideShapes Go.ChangeAt Go.RowKit Go.Deep
attribute [local go_sem ↓] Go.wp_at_zero Go.wp_at_succ
section
variable {H : Type} {enc : TypeId × Value → H} {w : World}
set_option maxRecDepth 100000 in
theorem open_refC {n : Nat} {cs : List Value} {y : DataW H × List MemPlace} (hlen : cs.length = 2) (h : DataW.trod enc Tryz.prog w 0 (fun _ => true) true n 26 cs = some y) :
    ∃ x : Int × Int, cs = [.int .i64 x.1, .int .i64 x.2] ∧ (-9223372036854775808 ≤ x.1 ∧ x.1 ≤ 9223372036854775807) ∧ (-9223372036854775808 ≤ x.2 ∧ x.2 ≤ 9223372036854775807) := by
  have hf := struct_fields Tryz.underlying26 (by kernel_rfl) h
  obtain ⟨v0, _, _, e0, f0⟩ := hf 0 _ rfl (by omega)
  obtain ⟨v1, _, _, e1, f1⟩ := hf 1 _ rfl (by omega)
  obtain ⟨n0, hn0, _, w0⟩ := DataW.trod_int Tryz.underlying3 f0
  obtain ⟨n1, hn1, _, w1⟩ := DataW.trod_int Tryz.underlying3 f1
  injection hn0 with hn0 _
  injection hn1 with hn1 _
  subst hn0; subst hn1
  refine ⟨(n0, n1), ?_, wf_i64 w0, wf_i64 w1⟩
  match cs, hlen with
  | [x0, x1], _ =>
    simp at e0 e1
    rw [e0, e1]
set_option maxRecDepth 100000 in
theorem open_ref {r : Reach} {b0 : Nat} {v : Value} {d : DataW H} {ps : List MemPlace} (hv : Value.okWide Tryz.prog w r b0 26 v) (hd : DataW.Trod enc Tryz.prog w 0 (fun _ => true) true 26 v d ps) :
    ∃ (_ : Unit) (_ : Unit) (x : Int × Int), v = .agg #[.int .i64 x.1, .int .i64 x.2] ∧ (-9223372036854775808 ≤ x.1 ∧ x.1 ≤ 9223372036854775807) ∧ (-9223372036854775808 ≤ x.2 ∧ x.2 ≤ 9223372036854775807) := by
  obtain ⟨cs, rfl, hsz⟩ := okWide_struct Tryz.underlying26 hv
  obtain ⟨fuel, hf⟩ := hd
  obtain ⟨x, hcs, h⟩ := open_refC (cs := cs.toList) (by rw [Array.length_toList, hsz]; kernel_rfl) hf
  refine ⟨(), (), x, ?_, h⟩
  congr 1
  exact Array.toList_inj.1 hcs
end
theorem sameT_self (T : Tab) : sameT T T = true := by unfold sameT; simp
set_option maxRecDepth 100000 in
set_option maxHeartbeats 4000000 in
theorem same_refs (A B : Option Addr) (c d : Nat) (kf : List (Int × Int)) (w : World) (h1 : ListAt w w.heap.size 2 A (kf.map refC)) (h2 : ListAt w w.heap.size 2 B (kf.map refC)) (hl : kf.length ≤ 1000) :
    Calls Tryz.prog 13 #[.slice A kf.length c, .slice B kf.length d] w fun e w' => e = .returned (.bool true) ∧ Grew w w' := by
  have H1 := Lib.hid h1
  have H2 := Lib.hid h2
  have hb : ((kf.length : Int) != (kf.length : Int)) = false := by simp
  clear h1 h2
  go_enter Tryz.func13, Tryz.ntmps13
  go_wp2_with fail
  go_loopg [5] kf.length (fun gk i wr => ∃ k : Nat, k ≤ kf.length ∧ gk = kf.length - k ∧ i = .int .i64 k ∧ Grew w wr)
  case atStart => exact ⟨0, by omega, by omega, rfl, Grew.refl _⟩
  case round =>
    obtain ⟨k, hk, hgk, rfl, hg⟩ := hrel
    have HGK := Lib.hid hgk
    have HG := Lib.hid hg
    have hgs := hg.size
    clear hgk hb
    by_cases hlt : k < kf.length
    · obtain ⟨b1, o1, rfl, hb1, hc1⟩ := H1.out (by rw [List.length_map]; omega)
      obtain ⟨b2, o2, rfl, hb2, hc2⟩ := H2.out (by rw [List.length_map]; omega)
      obtain ⟨⟨xi, xu⟩, hxk⟩ : ∃ p, kf[k] = p := ⟨_, rfl⟩
      have hrow : (kf.map refC)[k]? = some [.int .i64 xi, .int .i64 xu] := by rw [List.getElem?_map, List.getElem?_eq_getElem hlt, hxk]; rfl
      have q0 : wr.cell? ⟨b1, o1 + k * 2, none⟩ = some (.int .i64 xi) := by rw [hg.cellEq _ _ hb1]; exact hc1 k _ hrow 0 _ rfl
      have q1 : wr.cell? ⟨b1, o1 + k * 2 + 1, none⟩ = some (.int .i64 xu) := by rw [hg.cellEq _ _ hb1]; exact hc1 k _ hrow 1 _ rfl
      have p0 : wr.cell? ⟨b2, o2 + k * 2, none⟩ = some (.int .i64 xi) := by rw [hg.cellEq _ _ hb2]; exact hc2 k _ hrow 0 _ rfl
      have p1 : wr.cell? ⟨b2, o2 + k * 2 + 1, none⟩ = some (.int .i64 xu) := by rw [hg.cellEq _ _ hb2]; exact hc2 k _ hrow 1 _ rfl
      have hb1r := Nat.lt_of_lt_of_le hb1 hgs
      have hb2r := Nat.lt_of_lt_of_le hb2 hgs
      have hS : (fun w' : World => w'.cell? ⟨b1, o1 + k * 2, none⟩ = some (.int .i64 xi) ∧ w'.cell? ⟨b1, o1 + k * 2 + 1, none⟩ = some (.int .i64 xu) ∧ w'.cell? ⟨b2, o2 + k * 2, none⟩ = some (.int .i64 xi) ∧ w'.cell? ⟨b2, o2 + k * 2 + 1, none⟩ = some (.int .i64 xu)) wr.drew := ⟨q0, q1, p0, p1⟩
      clear hrow hxk hc1 hc2 hg
      go_wp2_with fail
      refine wp_region_R [] (fun w' : World => w'.cell? ⟨b1, o1 + k * 2, none⟩ = some (.int .i64 xi) ∧ w'.cell? ⟨b1, o1 + k * 2 + 1, none⟩ = some (.int .i64 xu) ∧ w'.cell? ⟨b2, o2 + k * 2, none⟩ = some (.int .i64 xi) ∧ w'.cell? ⟨b2, o2 + k * 2 + 1, none⟩ = some (.int .i64 xu)) (by kernel_rfl) ?_
      refine wpAnyR_takeQ (i := 0) (v := ?_) (some 17) rfl rfl (by kernel_rfl) (by kernel_rfl) (by kernel_rfl) (by kernel_rfl) (fun _ _ _ h => h) (Or.inl ⟨by rfl, ?_⟩) ?_
      rotate_left
      focus (intro wS hSw; (try dsimp only at hSw); go_simp; (try with_reducible rfl); (try (first | (rw [if_pos (by omega)]; (try go_simp); (try with_reducible rfl)) | (rw [if_neg (by omega)]; (try go_simp); (try with_reducible rfl)))))
      try simp only [Act.put, List.setIfInBounds_toArray, List.set_cons_zero, List.set_cons_succ]
      refine wpAnyR_takeQ (i := 1) (v := ?_) (some 18) rfl rfl (by kernel_rfl) (by kernel_rfl) (by kernel_rfl) (by kernel_rfl) (fun _ _ _ h => h) (Or.inl ⟨by rfl, ?_⟩) ?_
      rotate_left
      focus (intro wS hSw; (try dsimp only at hSw); go_simp; (try with_reducible rfl); (try (first | (rw [if_pos (by omega)]; (try go_simp); (try with_reducible rfl)) | (rw [if_neg (by omega)]; (try go_simp); (try with_reducible rfl)))))
      try simp only [Act.put, List.setIfInBounds_toArray, List.set_cons_zero, List.set_cons_succ]
      refine wpAnyR_takeQ (i := 2) (v := ?_) (some 19) rfl rfl (by kernel_rfl) (by kernel_rfl) (by kernel_rfl) (by kernel_rfl) (fun _ _ _ h => h) (Or.inl ⟨by rfl, ?_⟩) ?_
      rotate_left
      focus (intro wS hSw; (try dsimp only at hSw); go_simp; (try with_reducible rfl); (try (first | (rw [if_pos (by omega)]; (try go_simp); (try with_reducible rfl)) | (rw [if_neg (by omega)]; (try go_simp); (try with_reducible rfl)))))
      try simp only [Act.put, List.setIfInBounds_toArray, List.set_cons_zero, List.set_cons_succ]
      refine wpAnyR_take (i := 3) (v := ?_) [8] (some 20) rfl rfl (by kernel_rfl) (by kernel_rfl) (by kernel_rfl) (by kernel_rfl) (by kernel_rfl) (by kernel_rfl) (by kernel_rfl) (fun _ _ _ h => h) (Or.inl ⟨by rfl, ?_⟩) hS ?_
      rotate_left
      focus (intro wS hSw; (try dsimp only at hSw); go_simp; (try with_reducible rfl); (try (first | (rw [if_pos (by omega)]; (try go_simp); (try with_reducible rfl)) | (rw [if_neg (by omega)]; (try go_simp); (try with_reducible rfl)))))
      try simp only [Act.put, List.setIfInBounds_toArray, List.set_cons_zero, List.set_cons_succ]
      refine wpAnyR_takeQ (i := 4) (v := ?_) (some 21) rfl rfl (by kernel_rfl) (by kernel_rfl) (by kernel_rfl) (by kernel_rfl) (fun _ _ _ h => h) (Or.inl ⟨by rfl, ?_⟩) ?_
      rotate_left
      focus (intro wS hSw; (try dsimp only at hSw); go_simp; (try with_reducible rfl); (try (first | (rw [if_pos (by omega)]; (try go_simp); (try with_reducible rfl)) | (rw [if_neg (by omega)]; (try go_simp); (try with_reducible rfl)))))
      try simp only [Act.put, List.setIfInBounds_toArray, List.set_cons_zero, List.set_cons_succ]
      refine wpAnyR_takeQ (i := 5) (v := ?_) (some 22) rfl rfl (by kernel_rfl) (by kernel_rfl) (by kernel_rfl) (by kernel_rfl) (fun _ _ _ h => h) (Or.inl ⟨by rfl, ?_⟩) ?_
      rotate_left
      focus (intro wS hSw; (try dsimp only at hSw); go_simp; (try with_reducible rfl); (try (first | (rw [if_pos (by omega)]; (try go_simp); (try with_reducible rfl)) | (rw [if_neg (by omega)]; (try go_simp); (try with_reducible rfl)))))
      try simp only [Act.put, List.setIfInBounds_toArray, List.set_cons_zero, List.set_cons_succ]
      refine wpAnyR_takeQ (i := 6) (v := ?_) (some 23) rfl rfl (by kernel_rfl) (by kernel_rfl) (by kernel_rfl) (by kernel_rfl) (fun _ _ _ h => h) (Or.inl ⟨by rfl, ?_⟩) ?_
      rotate_left
      focus (intro wS hSw; (try dsimp only at hSw); go_simp; (try with_reducible rfl); (try (first | (rw [if_pos (by omega)]; (try go_simp); (try with_reducible rfl)) | (rw [if_neg (by omega)]; (try go_simp); (try with_reducible rfl)))))
      try simp only [Act.put, List.setIfInBounds_toArray, List.set_cons_zero, List.set_cons_succ]
      refine wpAnyR_take (i := 7) (v := ?_) [8] (some 24) rfl rfl (by kernel_rfl) (by kernel_rfl) (by kernel_rfl) (by kernel_rfl) (by kernel_rfl) (by kernel_rfl) (by kernel_rfl) (fun _ _ _ h => h) (Or.inl ⟨by rfl, ?_⟩) hS ?_
      rotate_left
      focus (intro wS hSw; (try dsimp only at hSw); go_simp; (try with_reducible rfl); (try (first | (rw [if_pos (by omega)]; (try go_simp); (try with_reducible rfl)) | (rw [if_neg (by omega)]; (try go_simp); (try with_reducible rfl)))))
      try simp only [Act.put, List.setIfInBounds_toArray, List.set_cons_zero, List.set_cons_succ]
      refine wpAnyR_takeQ (i := 8) (v := ?_) (some 25) rfl rfl (by kernel_rfl) (by kernel_rfl) (by kernel_rfl) (by kernel_rfl) (fun _ _ _ h => h) (Or.inl ⟨by rfl, ?_⟩) ?_
      rotate_left
      focus (intro wS hSw; (try dsimp only at hSw); go_simp; (try with_reducible rfl); (try (first | (rw [if_pos (by omega)]; (try go_simp); (try with_reducible rfl)) | (rw [if_neg (by omega)]; (try go_simp); (try with_reducible rfl)))))
      try simp only [Act.put, List.setIfInBounds_toArray, List.set_cons_zero, List.set_cons_succ]
      refine wpAnyR_done (by kernel_rfl) ?_ _
      clear hS q0 q1 p0 p1
      go_wp2_with fail
      go_roundg (kf.length - (k + 1))
      case measure => rw [HGK.out]; omega
      case rel => exact ⟨k + 1, by omega, by omega, by go_num, HG.out.drew⟩
    · go_wp2_with fail
      go_ret
      exact ⟨rfl, HG.out⟩
end Go.Proofs.YtnlaogneceanoaaGreat
namespace Go.Proofs.YtnlaogneceanoaaGreat
set_option linter.unusedVariables false
set_option linter.unusedSimpArgs false
set_option linter.unusedSectionVars false
open Go.RowKit
theorem fnd_len (T : Tab) (hs : SmallT T) (id unit : Int) : (fndT T id unit).1.ext.length ≤ 1000 := by
  rcases fndT_cases T id unit with ⟨k, hk, _, h, _⟩ | ⟨_, h, _⟩
  · rw [h]; exact hs.ext _ (List.getElem_mem hk)
  · rw [h]; decide
end Go.Proofs.YtnlaogneceanoaaGreat
namespace Go.Proofs.YtnlaogneceanoaaGreat
set_option linter.unusedVariables false
set_option linter.unusedSimpArgs false
set_option linter.unusedSectionVars false
open Go.RowKit
attribute [local go_sem ↓] Go.wp_at_zero Go.wp_at_succ
section
variable (A A2 : Option Addr) (c c2 : Nat) (T U : Tab) (id unit : Int) (w : World)
set_option maxRecDepth 100000 in
set_option maxHeartbeats 16000000 in
theorem contentsViews_any (hT : ∃ xs, TabAt w A c xs T) (hU : ∃ ys, TabAt w A2 c2 ys U) :
    Calls Tryz.prog 3 #[.agg #[.string T.name, .int .i64 T.tracks, .slice A T.labels.length c], .agg #[.string U.name, .int .i64 U.tracks, .slice A2 U.labels.length c2], .agg #[.int .i64 id, .int .i64 unit]] w fun e w' => e = .returned (.bool true) ∧ Grew w w' := by
  obtain ⟨xs, h⟩ := hT
  obtain ⟨ys, hu⟩ := hU
  have hg0 := (((Grew.refl w).alloc (.cells #[.string T.name, .int .i64 T.tracks, .slice A T.labels.length c] 24)).alloc (.cells #[.string U.name, .int .i64 U.tracks, .slice A2 U.labels.length c2] 24)).alloc (.cells #[.int .i64 id, .int .i64 unit] 26)
  have HB0 := Lib.hid (((Blk.new w 24 #[.string T.name, .int .i64 T.tracks, .slice A T.labels.length c] rfl).alloc (.cells #[.string U.name, .int .i64 U.tracks, .slice A2 U.labels.length c2] 24)).alloc (.cells #[.int .i64 id, .int .i64 unit] 26))
  have HC0 := Lib.hid ((Blk.new (w.alloc (.cells #[.string T.name, .int .i64 T.tracks, .slice A T.labels.length c] 24)) 24 #[.string U.name, .int .i64 U.tracks, .slice A2 U.labels.length c2] (n := w.heap.size + 1) (by simp)).alloc (.cells #[.int .i64 id, .int .i64 unit] 26))
  have HR0 := Lib.hid (Blk.new ((w.alloc (.cells #[.string T.name, .int .i64 T.tracks, .slice A T.labels.length c] 24)).alloc (.cells #[.string U.name, .int .i64 U.tracks, .slice A2 U.labels.length c2] 24)) 26 #[.int .i64 id, .int .i64 unit] (n := w.heap.size + 1 + 1) (by simp))
  have HTB := Lib.hid h
  have HUB := Lib.hid hu
  have HFT := Lib.hid (fun w1 (hg : Grew w w1) => fewT_any A c xs T w1 (h.hold hg))
  have HFU := Lib.hid (fun w1 (hg : Grew w w1) => fewT_any A2 c2 ys U w1 (hu.hold hg))
  have HG0 := Lib.hid hg0
  clear h hu hg0
  cases hf : fewT T with
  | false =>
    have HF := Lib.hid hf
    clear hf
    go_enter Tryz.func3, Tryz.ntmps3
    go_wp2_with fail
    refine (awake_con _).mono ?_
    rintro e w1 ⟨rfl, g1⟩
    have HB1 := Lib.hid (HB0.out.grew g1)
    have HC1 := Lib.hid (HC0.out.grew g1)
    have HR1 := Lib.hid (HR0.out.grew g1)
    have HG1 := Lib.hid (HG0.out.trans g1)
    have x0 := HB1.out.cell 0
    have x1 := HB1.out.cell 1
    have x2 := HB1.out.cell 2
    have hbl := HB1.out.lt
    clear g1
    go_wp2_with fail
    refine (HFT.out _ HG1.out).mono ?_
    rintro e w2 ⟨rfl, g2⟩
    rw [HF.out]
    clear x0 x1 x2 hbl
    go_wp2_with fail
    refine (awake_con _).mono ?_
    rintro e w3 ⟨rfl, g3⟩
    go_wp2_with fail
    go_ret
    exact ⟨rfl, (HG1.out.trans g2).trans g3⟩
  | true =>
  obtain ⟨hsm, _⟩ := fewT_facts hf
  have HF := Lib.hid hf
  clear hf
  cases hf2 : fewT U with
  | false =>
    have HF2 := Lib.hid hf2
    clear hf2 hsm
    go_enter Tryz.func3, Tryz.ntmps3
    go_wp2_with fail
    refine (awake_con _).mono ?_
    rintro e w1 ⟨rfl, g1⟩
    have HB1 := Lib.hid (HB0.out.grew g1)
    have HC1 := Lib.hid (HC0.out.grew g1)
    have HR1 := Lib.hid (HR0.out.grew g1)
    have HG1 := Lib.hid (HG0.out.trans g1)
    have x0 := HB1.out.cell 0
    have x1 := HB1.out.cell 1
    have x2 := HB1.out.cell 2
    have hbl := HB1.out.lt
    clear g1
    go_wp2_with fail
    refine (HFT.out _ HG1.out).mono ?_
    rintro e w2 ⟨rfl, g2⟩
    rw [HF.out]
    clear x0 x1 x2 hbl
    have HB2 := Lib.hid (HB1.out.grew g2)
    have HC2 := Lib.hid (HC1.out.grew g2)
    have HR2 := Lib.hid (HR1.out.grew g2)
    have HG2 := Lib.hid (HG1.out.trans g2)
    have y0 := HC2.out.cell 0
    have y1 := HC2.out.cell 1
    have y2 := HC2.out.cell 2
    have hcl := HC2.out.lt
    clear g2
    go_wp2_with fail
    refine (HFU.out _ HG2.out).mono ?_
    rintro e w3 ⟨rfl, g3⟩
    rw [HF2.out]
    clear y0 y1 y2 hcl
    go_wp2_with fail
    refine (awake_con _).mono ?_
    rintro e w4 ⟨rfl, g4⟩
    go_wp2_with fail
    go_ret
    exact ⟨rfl, (HG2.out.trans g3).trans g4⟩
  | true =>
  obtain ⟨hsu, _⟩ := fewT_facts hf2
  have HF2 := Lib.hid hf2
  clear hf2
  obtain ⟨⟨l, ok⟩, hfd⟩ : ∃ p, fndT T id unit = p := ⟨_, rfl⟩
  obtain ⟨vt, hvt⟩ : ∃ b, validT T = b := ⟨_, rfl⟩
  obtain ⟨kf, hkf⟩ : ∃ kf, refsT T = kf := ⟨_, rfl⟩
  obtain ⟨kr, hkr⟩ : ∃ kf, freeT T = kf := ⟨_, rfl⟩
  obtain ⟨st, hst⟩ : ∃ b, sameT T U = b := ⟨_, rfl⟩
  have hll : l.ext.length ≤ 1000 := by have := fnd_len T hsm id unit; rw [hfd] at this; exact this
  have hkl : kf.length ≤ 1000 := by
    rw [← hkf]
    have h1 := (sortP_perm (rawR T.labels)).length_eq
    have h2 := rawR_len T.labels T.labels.length
    rw [List.take_length] at h2
    have := hsm.len
    show (sortP (rawR T.labels)).length ≤ 1000
    omega
  have hrl : kr.length ≤ 1000000 := by
    rw [← hkr]
    exact Nat.le_trans (freeT_len T) (by omega)
  have HVT := Lib.hid hvt
  have HFD := Lib.hid (fun w1 (hg : Grew w w1) => find_tab A c xs T w1 (HTB.out.hold hg) hsm _ rfl id unit l ok hfd)
  have HRFD := Lib.hid (fun w1 (hg : Grew w w1) => rfind_tab (A := A) (c := c) (xs := xs) (T := T) (id := id) (unit := unit) (w := w1) (HTB.out.hold hg) hsm _ rfl l ok hfd)
  have HVD := Lib.hid (fun w1 (hg : Grew w w1) => valid_tab A c xs T w1 (HTB.out.hold hg) hsm _ rfl)
  have HRVD := Lib.hid (fun w1 (hg : Grew w w1) => rvalid_tab A c xs T w1 (HTB.out.hold hg) hsm _ rfl)
  have HRF := Lib.hid (fun w1 (hg : Grew w w1) => refs_tab A c xs T w1 (HTB.out.hold hg) hsm _ rfl kf hkf)
  have HRRF := Lib.hid (fun w1 (hg : Grew w w1) => rrefs_tab A c xs T w1 (HTB.out.hold hg) hsm kf hkf)
  have HFR := Lib.hid (fun w1 (hg : Grew w w1) => free_tab A c xs T w1 (HTB.out.hold hg) hsm _ rfl kr hkr)
  have HRFR := Lib.hid (fun w1 (hg : Grew w w1) => rfree_tab (A := A) (c := c) (xs := xs) (T := T) (w := w1) (HTB.out.hold hg) hsm _ rfl kr hkr)
  have HSA := Lib.hid (fun w1 (hg : Grew w w1) => same_tab A A2 c c2 xs ys T U w1 (HTB.out.hold hg) hsm (HUB.out.hold hg) hsu st hst)
  have HRSA := Lib.hid (fun w1 (hg : Grew w w1) => rsame_tab A A2 c c2 xs ys T U w1 (HTB.out.hold hg) hsm (HUB.out.hold hg) hsu st hst)
  have HSS := Lib.hid (fun w1 (hg : Grew w w1) => same_tab A A c c xs xs T T w1 (HTB.out.hold hg) hsm (HTB.out.hold hg) hsm true (sameT_self T))
  have HKL := Lib.hid hkl
  have hvv : (vt == vt) = true := by cases vt <;> rfl
  have hoo : (ok == ok) = true := by cases ok <;> rfl
  have hss : (st == st) = true := by cases st <;> rfl
  clear hfd hvt hkf hkr hst hkl hsm hsu
  go_enter Tryz.func3, Tryz.ntmps3
  go_wp2_with fail
  refine (awake_con _).mono ?_
  rintro e w1 ⟨rfl, g1⟩
  have HB1 := Lib.hid (HB0.out.grew g1)
  have HC1 := Lib.hid (HC0.out.grew g1)
  have HR1 := Lib.hid (HR0.out.grew g1)
  have HG1 := Lib.hid (HG0.out.trans g1)
  have x0 := HB1.out.cell 0
  have x1 := HB1.out.cell 1
  have x2 := HB1.out.cell 2
  have hbl := HB1.out.lt
  clear g1
  go_wp2_with fail
  refine (HFT.out _ HG1.out).mono ?_
  rintro e w2 ⟨rfl, g2⟩
  rw [HF.out]
  clear x0 x1 x2 hbl
  have HB2 := Lib.hid (HB1.out.grew g2)
  have HC2 := Lib.hid (HC1.out.grew g2)
  have HR2 := Lib.hid (HR1.out.grew g2)
  have HG2 := Lib.hid (HG1.out.trans g2)
  have y0 := HC2.out.cell 0
  have y1 := HC2.out.cell 1
  have y2 := HC2.out.cell 2
  have hcl := HC2.out.lt
  clear g2
  go_wp2_with fail
  refine (HFU.out _ HG2.out).mono ?_
  rintro e w3 ⟨rfl, g3⟩
  rw [HF2.out]
  clear y0 y1 y2 hcl
  have HB3 := Lib.hid (HB2.out.grew g3)
  have HC3 := Lib.hid (HC2.out.grew g3)
  have HR3 := Lib.hid (HR2.out.grew g3)
  have HG3 := Lib.hid (HG2.out.trans g3)
  clear g3
  have x0 := HB3.out.cell 0
  have x1 := HB3.out.cell 1
  have x2 := HB3.out.cell 2
  have hbl := HB3.out.lt
  have r0 := HR3.out.cell 0
  have r1 := HR3.out.cell 1
  have hrl3 := HR3.out.lt
  go_wp2_with fail
  refine (HFD.out _ HG3.out).mono ?_
  rintro e w4 ⟨BA, dA, rfl, hla, g4⟩
  have gal : Grew w4 (w4.alloc (.cells #[.int .i64 l.id, .int .i64 l.unit, .string l.name, .string l.note, .slice BA l.ext.length dA] 31)) := (Grew.refl w4).alloc _
  have HLA4 := Lib.hid (hla.hold gal)
  have HA4 := Lib.hid (Blk.new w4 31 #[.int .i64 l.id, .int .i64 l.unit, .string l.name, .string l.note, .slice BA l.ext.length dA] rfl)
  have HB4 := Lib.hid ((HB3.out.grew g4).grew gal)
  have HC4 := Lib.hid ((HC3.out.grew g4).grew gal)
  have HR4 := Lib.hid ((HR3.out.grew g4).grew gal)
  have HG4 := Lib.hid ((HG3.out.trans g4).trans gal)
  clear x0 x1 x2 hbl r0 r1 hrl3 g4 gal hla
  have x0 := HB4.out.cell 0
  have x1 := HB4.out.cell 1
  have x2 := HB4.out.cell 2
  have hbl := HB4.out.lt
  have r0 := HR4.out.cell 0
  have r1 := HR4.out.cell 1
  have hrl4 := HR4.out.lt
  go_wp2_with fail
  refine (HRFD.out _ HG4.out).mono ?_
  rintro e w5 ⟨BB, dB, rfl, hlb, g5⟩
  have gal : Grew w5 (w5.alloc (.cells #[.int .i64 l.id, .int .i64 l.unit, .string l.name, .string l.note, .slice BB l.ext.length dB] 31)) := (Grew.refl w5).alloc _
  have HLB5 := Lib.hid (hlb.hold gal)
  have HLA5 := Lib.hid ((HLA4.out.hold g5).hold gal)
  have HA5 := Lib.hid ((HA4.out.grew g5).grew gal)
  have HN5 := Lib.hid (Blk.new w5 31 #[.int .i64 l.id, .int .i64 l.unit, .string l.name, .string l.note, .slice BB l.ext.length dB] rfl)
  have HB5 := Lib.hid ((HB4.out.grew g5).grew gal)
  have HC5 := Lib.hid ((HC4.out.grew g5).grew gal)
  have HG5 := Lib.hid ((HG4.out.trans g5).trans gal)
  clear x0 x1 x2 hbl r0 r1 hrl4 g5 gal hlb
  go_wp2_with fail
  obtain ⟨wr, hwr⟩ : ∃ w', w' = w5.alloc (.cells #[.int .i64 l.id, .int .i64 l.unit, .string l.name, .string l.note, .slice BB l.ext.length dB] 31) := ⟨_, rfl⟩
  obtain ⟨ga, hga⟩ : ∃ g, g = w4.heap.size := ⟨_, rfl⟩
  obtain ⟨gb, hgb⟩ : ∃ g, g = w5.heap.size := ⟨_, rfl⟩
  rw [← hwr] at HLB5 HLA5 HA5 HN5 HB5 HC5 HG5 ⊢
  rw [← hga] at HA5 ⊢
  rw [← hgb] at HN5 ⊢
  clear hwr hga hgb
  have hS : (fun w' : World => w'.cell? ⟨w.heap.size, 0, none⟩ = some (.string T.name) ∧ w'.cell? ⟨w.heap.size, 1, none⟩ = some (.int .i64 T.tracks) ∧ w'.cell? ⟨w.heap.size, 2, none⟩ = some (.slice A T.labels.length c) ∧ w'.cell? ⟨w.heap.size + 1, 0, none⟩ = some (.string U.name) ∧ w'.cell? ⟨w.heap.size + 1, 1, none⟩ = some (.int .i64 U.tracks) ∧ w'.cell? ⟨w.heap.size + 1, 2, none⟩ = some (.slice A2 U.labels.length c2) ∧ w'.cell? ⟨ga, 0, none⟩ = some (.int .i64 l.id) ∧ w'.cell? ⟨ga, 1, none⟩ = some (.int .i64 l.unit) ∧ w'.cell? ⟨ga, 2, none⟩ = some (.string l.name) ∧ w'.cell? ⟨ga, 3, none⟩ = some (.string l.note) ∧ w'.cell? ⟨ga, 4, none⟩ = some (.slice BA l.ext.length dA) ∧ w'.cell? ⟨gb, 0, none⟩ = some (.int .i64 l.id) ∧ w'.cell? ⟨gb, 1, none⟩ = some (.int .i64 l.unit) ∧ w'.cell? ⟨gb, 2, none⟩ = some (.string l.name) ∧ w'.cell? ⟨gb, 3, none⟩ = some (.string l.note) ∧ w'.cell? ⟨gb, 4, none⟩ = some (.slice BB l.ext.length dB)) wr.drew := ⟨HB5.out.drew.cell 0, HB5.out.drew.cell 1, HB5.out.drew.cell 2, HC5.out.drew.cell 0, HC5.out.drew.cell 1, HC5.out.drew.cell 2, HA5.out.drew.cell 0, HA5.out.drew.cell 1, HA5.out.drew.cell 2, HA5.out.drew.cell 3, HA5.out.drew.cell 4, HN5.out.drew.cell 0, HN5.out.drew.cell 1, HN5.out.drew.cell 2, HN5.out.drew.cell 3, HN5.out.drew.cell 4⟩
  have HSG := Lib.hid (show ∀ w1 : World, Grew wr.drew w1 → (fun w' : World => w'.cell? ⟨w.heap.size, 0, none⟩ = some (.string T.name) ∧ w'.cell? ⟨w.heap.size, 1, none⟩ = some (.int .i64 T.tracks) ∧ w'.cell? ⟨w.heap.size, 2, none⟩ = some (.slice A T.labels.length c) ∧ w'.cell? ⟨w.heap.size + 1, 0, none⟩ = some (.string U.name) ∧ w'.cell? ⟨w.heap.size + 1, 1, none⟩ = some (.int .i64 U.tracks) ∧ w'.cell? ⟨w.heap.size + 1, 2, none⟩ = some (.slice A2 U.labels.length c2) ∧ w'.cell? ⟨ga, 0, none⟩ = some (.int .i64 l.id) ∧ w'.cell? ⟨ga, 1, none⟩ = some (.int .i64 l.unit) ∧ w'.cell? ⟨ga, 2, none⟩ = some (.string l.name) ∧ w'.cell? ⟨ga, 3, none⟩ = some (.string l.note) ∧ w'.cell? ⟨ga, 4, none⟩ = some (.slice BA l.ext.length dA) ∧ w'.cell? ⟨gb, 0, none⟩ = some (.int .i64 l.id) ∧ w'.cell? ⟨gb, 1, none⟩ = some (.int .i64 l.unit) ∧ w'.cell? ⟨gb, 2, none⟩ = some (.string l.name) ∧ w'.cell? ⟨gb, 3, none⟩ = some (.string l.note) ∧ w'.cell? ⟨gb, 4, none⟩ = some (.slice BB l.ext.length dB)) w1 from fun w1 g => ⟨(HB5.out.drew.grew g).cell 0, (HB5.out.drew.grew g).cell 1, (HB5.out.drew.grew g).cell 2, (HC5.out.drew.grew g).cell 0, (HC5.out.drew.grew g).cell 1, (HC5.out.drew.grew g).cell 2, (HA5.out.drew.grew g).cell 0, (HA5.out.drew.grew g).cell 1, (HA5.out.drew.grew g).cell 2, (HA5.out.drew.grew g).cell 3, (HA5.out.drew.grew g).cell 4, (HN5.out.drew.grew g).cell 0, (HN5.out.drew.grew g).cell 1, (HN5.out.drew.grew g).cell 2, (HN5.out.drew.grew g).cell 3, (HN5.out.drew.grew g).cell 4⟩)
  have HGD := Lib.hid (show Grew w wr.drew from HG5.out.drew)
  have HLAD := Lib.hid (show LabAt wr.drew BA dA l from HLA5.out.hold (Grew.refl wr).drew)
  have HLBD := Lib.hid (show LabAt wr.drew BB dB l from HLB5.out.hold (Grew.refl wr).drew)
  have hgz := Grew.refl wr.drew
  refine wp_region_R [] (fun w' : World => w'.cell? ⟨w.heap.size, 0, none⟩ = some (.string T.name) ∧ w'.cell? ⟨w.heap.size, 1, none⟩ = some (.int .i64 T.tracks) ∧ w'.cell? ⟨w.heap.size, 2, none⟩ = some (.slice A T.labels.length c) ∧ w'.cell? ⟨w.heap.size + 1, 0, none⟩ = some (.string U.name) ∧ w'.cell? ⟨w.heap.size + 1, 1, none⟩ = some (.int .i64 U.tracks) ∧ w'.cell? ⟨w.heap.size + 1, 2, none⟩ = some (.slice A2 U.labels.length c2) ∧ w'.cell? ⟨ga, 0, none⟩ = some (.int .i64 l.id) ∧ w'.cell? ⟨ga, 1, none⟩ = some (.int .i64 l.unit) ∧ w'.cell? ⟨ga, 2, none⟩ = some (.string l.name) ∧ w'.cell? ⟨ga, 3, none⟩ = some (.string l.note) ∧ w'.cell? ⟨ga, 4, none⟩ = some (.slice BA l.ext.length dA) ∧ w'.cell? ⟨gb, 0, none⟩ = some (.int .i64 l.id) ∧ w'.cell? ⟨gb, 1, none⟩ = some (.int .i64 l.unit) ∧ w'.cell? ⟨gb, 2, none⟩ = some (.string l.name) ∧ w'.cell? ⟨gb, 3, none⟩ = some (.string l.note) ∧ w'.cell? ⟨gb, 4, none⟩ = some (.slice BB l.ext.length dB)) (by kernel_rfl) ?_
  refine wpAnyR_take (i := 0) (v := ?_) [1, 3, 4, 5, 6, 7, 8, 9, 10, 11, 12, 13, 14, 15, 16, 17, 18, 19, 20, 21, 22, 23, 24, 25, 26, 27, 28, 29, 30, 31, 32, 33, 34, 35, 36, 37, 38, 39, 40, 41, 42, 43] (some 36) rfl rfl (by kernel_rfl) (by kernel_rfl) (by kernel_rfl) (by kernel_rfl) (by kernel_rfl) (by kernel_rfl) (by kernel_rfl) (fun _ _ _ h => h) (Or.inl ⟨by rfl, ?_⟩) hS ?_
  rotate_left
  focus (intro wS hSw; (try dsimp only at hSw); go_simp; (try with_reducible rfl); (try (first | (rw [if_pos (by omega)]; (try go_simp); (try with_reducible rfl)) | (rw [if_neg (by omega)]; (try go_simp); (try with_reducible rfl)))))
  try simp only [Act.put, List.setIfInBounds_toArray, List.set_cons_zero, List.set_cons_succ]
  refine wpAnyR_take (i := 2) (v := ?_) [3, 4, 5, 6, 7, 8, 9, 10, 11, 12, 13, 14, 15, 16, 17, 18, 19, 20, 21, 22, 23, 24, 25, 26, 27, 28, 29, 30, 31, 32, 33, 34, 35, 36, 37, 38, 39, 40, 41, 42, 43] (some 38) rfl rfl (by kernel_rfl) (by kernel_rfl) (by kernel_rfl) (by kernel_rfl) (by kernel_rfl) (by kernel_rfl) (by kernel_rfl) (fun _ _ _ h => h) (Or.inl ⟨by rfl, ?_⟩) hS ?_
  rotate_left
  focus (intro wS hSw; (try dsimp only at hSw); go_simp; (try with_reducible rfl); (try (first | (rw [if_pos (by omega)]; (try go_simp); (try with_reducible rfl)) | (rw [if_neg (by omega)]; (try go_simp); (try with_reducible rfl)))))
  try simp only [Act.put, List.setIfInBounds_toArray, List.set_cons_zero, List.set_cons_succ]
  refine wpAnyR_n1 (i := 1) rfl (by kernel_rfl) ?_
  intro K' hK
  rw [if_pos (by rfl)]
  simp only [List.getElem_toArray, List.getElem_cons_succ, List.getElem_cons_zero]
  go_wp2_with fail
  refine (HVD.out _ (HGD.out.trans hgz)).mono ?_
  rintro e v0 ⟨rfl, k0⟩
  rw [HVT.out]
  have G0 := hgz.trans k0
  go_wp2_with fail
  refine hK.out _ _ (.inr (fun _ => HSG.out _ G0)) ?_
  clear hK hS k0 
  have hS := HSG.out _ G0
  refine wpAnyR_n1 (i := 3) rfl (by kernel_rfl) ?_
  intro K' hK
  rw [if_pos (by rfl)]
  simp only [List.getElem_toArray, List.getElem_cons_succ, List.getElem_cons_zero]
  go_wp2_with fail
  refine (HRVD.out _ (HGD.out.trans G0)).mono ?_
  rintro e v1 ⟨rfl, k1⟩
  rw [HVT.out]
  have G1 := G0.trans k1
  go_wp2_with fail
  refine hK.out _ _ (.inr (fun _ => HSG.out _ G1)) ?_
  clear hK hS k1 G0
  have hS := HSG.out _ G1
  refine wpAnyR_takeQ (i := 4) (v := ?_) (some 40) rfl rfl (by kernel_rfl) (by kernel_rfl) (by kernel_rfl) (by kernel_rfl) (fun _ _ _ h => h) (Or.inl ⟨by rfl, ?_⟩) ?_
  rotate_left
  focus (intro wS hSw; (try dsimp only at hSw); go_simp; (try with_reducible rfl); (try (first | (rw [if_pos (by omega)]; (try go_simp); (try with_reducible rfl)) | (rw [if_neg (by omega)]; (try go_simp); (try with_reducible rfl)))))
  try simp only [Act.put, List.setIfInBounds_toArray, List.set_cons_zero, List.set_cons_succ]
  try rw [hvv]
  refine wpAnyR_takeQ (i := 5) (v := ?_) (some 41) rfl rfl (by kernel_rfl) (by kernel_rfl) (by kernel_rfl) (by kernel_rfl) (fun _ _ _ h => h) (Or.inl ⟨by rfl, ?_⟩) ?_
  rotate_left
  focus (intro wS hSw; (try dsimp only at hSw); go_simp; (try with_reducible rfl); (try (first | (rw [if_pos (by omega)]; (try go_simp); (try with_reducible rfl)) | (rw [if_neg (by omega)]; (try go_simp); (try with_reducible rfl)))))
  try simp only [Act.put, List.setIfInBounds_toArray, List.set_cons_zero, List.set_cons_succ]
  refine wpAnyR_take (i := 6) (v := ?_) [8, 9, 10, 11, 12, 13, 14, 15, 16, 17, 18, 19, 20, 21, 22, 23, 24, 25, 26, 27, 28, 29, 30, 31, 32, 33, 34, 35, 36, 37, 38, 39, 40, 41, 42, 43] (some 42) rfl rfl (by kernel_rfl) (by kernel_rfl) (by kernel_rfl) (by kernel_rfl) (by kernel_rfl) (by kernel_rfl) (by kernel_rfl) (fun _ _ _ h => h) (Or.inl ⟨by rfl, ?_⟩) hS ?_
  rotate_left
  focus (intro wS hSw; (try dsimp only at hSw); go_simp; (try with_reducible rfl); (try (first | (rw [if_pos (by omega)]; (try go_simp); (try with_reducible rfl)) | (rw [if_neg (by omega)]; (try go_simp); (try with_reducible rfl)))))
  try simp only [Act.put, List.setIfInBounds_toArray, List.set_cons_zero, List.set_cons_succ]
  refine wpAnyR_take (i := 7) (v := ?_) [8, 9, 10, 11, 12, 13, 14, 15, 16, 17, 18, 19, 20, 21, 22, 23, 24, 25, 26, 27, 28, 29, 30, 31, 32, 33, 34, 35, 36, 37, 38, 39, 40, 41, 42, 43] (some 43) rfl rfl (by kernel_rfl) (by kernel_rfl) (by kernel_rfl) (by kernel_rfl) (by kernel_rfl) (by kernel_rfl) (by kernel_rfl) (fun _ _ _ h => h) (Or.inl ⟨by rfl, ?_⟩) hS ?_
  rotate_left
  focus (intro wS hSw; (try dsimp only at hSw); go_simp; (try with_reducible rfl); (try (first | (rw [if_pos (by omega)]; (try go_simp); (try with_reducible rfl)) | (rw [if_neg (by omega)]; (try go_simp); (try with_reducible rfl)))))
  try simp only [Act.put, List.setIfInBounds_toArray, List.set_cons_zero, List.set_cons_succ]
  refine wpAnyR_n1 (i := 8) rfl (by kernel_rfl) ?_
  intro K' hK
  rw [if_pos (by rfl)]
  simp only [List.getElem_toArray, List.getElem_cons_succ, List.getElem_cons_zero]
  go_wp2_with fail
  refine (requal_any BA BB dA dB l l _ (HLAD.out.hold G1) (HLBD.out.hold G1) (by omega) (by omega)).mono ?_
  rintro e v2 ⟨rfl, k2⟩
  rw [eqL_self]
  have G2 := G1.trans k2
  go_wp2_with fail
  refine hK.out _ _ (.inr (fun _ => HSG.out _ G2)) ?_
  clear hK hS k2 G1
  have hS := HSG.out _ G2
  refine wpAnyR_takeQ (i := 9) (v := ?_) (some 45) rfl rfl (by kernel_rfl) (by kernel_rfl) (by kernel_rfl) (by kernel_rfl) (fun _ _ _ h => h) (Or.inl ⟨by rfl, ?_⟩) ?_
  rotate_left
  focus (intro wS hSw; (try dsimp only at hSw); go_simp; (try with_reducible rfl); (try (first | (rw [if_pos (by omega)]; (try go_simp); (try with_reducible rfl)) | (rw [if_neg (by omega)]; (try go_simp); (try with_reducible rfl)))))
  try simp only [Act.put, List.setIfInBounds_toArray, List.set_cons_zero, List.set_cons_succ]
  refine wpAnyR_takeQ (i := 10) (v := ?_) (some 46) rfl rfl (by kernel_rfl) (by kernel_rfl) (by kernel_rfl) (by kernel_rfl) (fun _ _ _ h => h) (Or.inl ⟨by rfl, ?_⟩) ?_
  rotate_left
  focus (intro wS hSw; (try dsimp only at hSw); go_simp; (try with_reducible rfl); (try (first | (rw [if_pos (by omega)]; (try go_simp); (try with_reducible rfl)) | (rw [if_neg (by omega)]; (try go_simp); (try with_reducible rfl)))))
  try simp only [Act.put, List.setIfInBounds_toArray, List.set_cons_zero, List.set_cons_succ]
  refine wpAnyR_takeQ (i := 11) (v := ?_) (some 47) rfl rfl (by kernel_rfl) (by kernel_rfl) (by kernel_rfl) (by kernel_rfl) (fun _ _ _ h => h) (Or.inl ⟨by rfl, ?_⟩) ?_
  rotate_left
  focus (intro wS hSw; (try dsimp only at hSw); go_simp; (try with_reducible rfl); (try (first | (rw [if_pos (by omega)]; (try go_simp); (try with_reducible rfl)) | (rw [if_neg (by omega)]; (try go_simp); (try with_reducible rfl)))))
  try simp only [Act.put, List.setIfInBounds_toArray, List.set_cons_zero, List.set_cons_succ]
  refine wpAnyR_takeQ (i := 12) (v := ?_) (some 48) rfl rfl (by kernel_rfl) (by kernel_rfl) (by kernel_rfl) (by kernel_rfl) (fun _ _ _ h => h) (Or.inl ⟨by rfl, ?_⟩) ?_
  rotate_left
  focus (intro wS hSw; (try dsimp only at hSw); go_simp; (try with_reducible rfl); (try (first | (rw [if_pos (by omega)]; (try go_simp); (try with_reducible rfl)) | (rw [if_neg (by omega)]; (try go_simp); (try with_reducible rfl)))))
  try simp only [Act.put, List.setIfInBounds_toArray, List.set_cons_zero, List.set_cons_succ]
  refine wpAnyR_takeQ (i := 13) (v := ?_) (some 49) rfl rfl (by kernel_rfl) (by kernel_rfl) (by kernel_rfl) (by kernel_rfl) (fun _ _ _ h => h) (Or.inl ⟨by rfl, ?_⟩) ?_
  rotate_left
  focus (intro wS hSw; (try dsimp only at hSw); go_simp; (try with_reducible rfl); (try (first | (rw [if_pos (by omega)]; (try go_simp); (try with_reducible rfl)) | (rw [if_neg (by omega)]; (try go_simp); (try with_reducible rfl)))))
  try simp only [Act.put, List.setIfInBounds_toArray, List.set_cons_zero, List.set_cons_succ]
  try rw [hoo]
  refine wpAnyR_takeQ (i := 14) (v := ?_) (some 50) rfl rfl (by kernel_rfl) (by kernel_rfl) (by kernel_rfl) (by kernel_rfl) (fun _ _ _ h => h) (Or.inl ⟨by rfl, ?_⟩) ?_
  rotate_left
  focus (intro wS hSw; (try dsimp only at hSw); go_simp; (try with_reducible rfl); (try (first | (rw [if_pos (by omega)]; (try go_simp); (try with_reducible rfl)) | (rw [if_neg (by omega)]; (try go_simp); (try with_reducible rfl)))))
  try simp only [Act.put, List.setIfInBounds_toArray, List.set_cons_zero, List.set_cons_succ]
  refine wpAnyR_takeQ (i := 15) (v := ?_) (some 51) rfl rfl (by kernel_rfl) (by kernel_rfl) (by kernel_rfl) (by kernel_rfl) (fun _ _ _ h => h) (Or.inl ⟨by rfl, ?_⟩) ?_
  rotate_left
  focus (intro wS hSw; (try dsimp only at hSw); go_simp; (try with_reducible rfl); (try (first | (rw [if_pos (by omega)]; (try go_simp); (try with_reducible rfl)) | (rw [if_neg (by omega)]; (try go_simp); (try with_reducible rfl)))))
  try simp only [Act.put, List.setIfInBounds_toArray, List.set_cons_zero, List.set_cons_succ]
  refine wpAnyR_take (i := 16) (v := ?_) [17, 19, 20, 21, 22, 23, 24, 25, 26, 27, 28, 29, 30, 31, 32, 33, 34, 35, 36, 37, 38, 39, 40, 41, 42, 43] (some 52) rfl rfl (by kernel_rfl) (by kernel_rfl) (by kernel_rfl) (by kernel_rfl) (by kernel_rfl) (by kernel_rfl) (by kernel_rfl) (fun _ _ _ h => h) (Or.inl ⟨by rfl, ?_⟩) hS ?_
  rotate_left
  focus (intro wS hSw; (try dsimp only at hSw); go_simp; (try with_reducible rfl); (try (first | (rw [if_pos (by omega)]; (try go_simp); (try with_reducible rfl)) | (rw [if_neg (by omega)]; (try go_simp); (try with_reducible rfl)))))
  try simp only [Act.put, List.setIfInBounds_toArray, List.set_cons_zero, List.set_cons_succ]
  refine wpAnyR_take (i := 18) (v := ?_) [19, 20, 21, 22, 23, 24, 25, 26, 27, 28, 29, 30, 31, 32, 33, 34, 35, 36, 37, 38, 39, 40, 41, 42, 43] (some 54) rfl rfl (by kernel_rfl) (by kernel_rfl) (by kernel_rfl) (by kernel_rfl) (by kernel_rfl) (by kernel_rfl) (by kernel_rfl) (fun _ _ _ h => h) (Or.inl ⟨by rfl, ?_⟩) hS ?_
  rotate_left
  focus (intro wS hSw; (try dsimp only at hSw); go_simp; (try with_reducible rfl); (try (first | (rw [if_pos (by omega)]; (try go_simp); (try with_reducible rfl)) | (rw [if_neg (by omega)]; (try go_simp); (try with_reducible rfl)))))
  try simp only [Act.put, List.setIfInBounds_toArray, List.set_cons_zero, List.set_cons_succ]
  refine wpAnyR_n1 (i := 17) rfl (by kernel_rfl) ?_
  intro K' hK
  rw [if_pos (by rfl)]
  simp only [List.getElem_toArray, List.getElem_cons_succ, List.getElem_cons_zero]
  go_wp2_with fail
  refine (HRF.out _ (HGD.out.trans G2)).mono ?_
  rintro e v3 ⟨A3, c3, rfl, l3, k3⟩
  have G3 := G2.trans k3
  go_wp2_with fail
  refine hK.out _ _ (.inr (fun _ => HSG.out _ G3)) ?_
  clear hK hS k3 G2
  have hS := HSG.out _ G3
  refine wpAnyR_n1 (i := 19) rfl (by kernel_rfl) ?_
  intro K' hK
  rw [if_pos (by rfl)]
  simp only [List.getElem_toArray, List.getElem_cons_succ, List.getElem_cons_zero]
  go_wp2_with fail
  refine (HRRF.out _ (HGD.out.trans G3)).mono ?_
  rintro e v4 ⟨A4, c4, rfl, l4, k4⟩
  have G4 := G3.trans k4
  replace l3 := (l3.keep (Nat.le_refl _) k4).mono (k4).size
  go_wp2_with fail
  refine hK.out _ _ (.inr (fun _ => HSG.out _ G4)) ?_
  clear hK hS k4 G3
  have hS := HSG.out _ G4
  refine wpAnyR_n1 (i := 20) rfl (by kernel_rfl) ?_
  intro K' hK
  rw [if_pos (by rfl)]
  simp only [List.getElem_toArray, List.getElem_cons_succ, List.getElem_cons_zero]
  go_wp2_with fail
  refine (same_refs A3 A4 c3 c4 kf _ l3 l4 HKL.out).mono ?_
  rintro e v5 ⟨rfl, k5⟩
  have G5 := G4.trans k5
  clear l3 l4
  go_wp2_with fail
  refine hK.out _ _ (.inr (fun _ => HSG.out _ G5)) ?_
  clear hK hS k5 G4
  have hS := HSG.out _ G5
  refine wpAnyR_takeQ (i := 21) (v := ?_) (some 57) rfl rfl (by kernel_rfl) (by kernel_rfl) (by kernel_rfl) (by kernel_rfl) (fun _ _ _ h => h) (Or.inl ⟨by rfl, ?_⟩) ?_
  rotate_left
  focus (intro wS hSw; (try dsimp only at hSw); go_simp; (try with_reducible rfl); (try (first | (rw [if_pos (by omega)]; (try go_simp); (try with_reducible rfl)) | (rw [if_neg (by omega)]; (try go_simp); (try with_reducible rfl)))))
  try simp only [Act.put, List.setIfInBounds_toArray, List.set_cons_zero, List.set_cons_succ]
  refine wpAnyR_takeQ (i := 22) (v := ?_) (some 58) rfl rfl (by kernel_rfl) (by kernel_rfl) (by kernel_rfl) (by kernel_rfl) (fun _ _ _ h => h) (Or.inl ⟨by rfl, ?_⟩) ?_
  rotate_left
  focus (intro wS hSw; (try dsimp only at hSw); go_simp; (try with_reducible rfl); (try (first | (rw [if_pos (by omega)]; (try go_simp); (try with_reducible rfl)) | (rw [if_neg (by omega)]; (try go_simp); (try with_reducible rfl)))))
  try simp only [Act.put, List.setIfInBounds_toArray, List.set_cons_zero, List.set_cons_succ]
  refine wpAnyR_take (i := 23) (v := ?_) [24, 26, 27, 28, 29, 30, 31, 32, 33, 34, 35, 36, 37, 38, 39, 40, 41, 42, 43] (some 59) rfl rfl (by kernel_rfl) (by kernel_rfl) (by kernel_rfl) (by kernel_rfl) (by kernel_rfl) (by kernel_rfl) (by kernel_rfl) (fun _ _ _ h => h) (Or.inl ⟨by rfl, ?_⟩) hS ?_
  rotate_left
  focus (intro wS hSw; (try dsimp only at hSw); go_simp; (try with_reducible rfl); (try (first | (rw [if_pos (by omega)]; (try go_simp); (try with_reducible rfl)) | (rw [if_neg (by omega)]; (try go_simp); (try with_reducible rfl)))))
  try simp only [Act.put, List.setIfInBounds_toArray, List.set_cons_zero, List.set_cons_succ]
  refine wpAnyR_take (i := 25) (v := ?_) [26, 27, 28, 29, 30, 31, 32, 33, 34, 35, 36, 37, 38, 39, 40, 41, 42, 43] (some 61) rfl rfl (by kernel_rfl) (by kernel_rfl) (by kernel_rfl) (by kernel_rfl) (by kernel_rfl) (by kernel_rfl) (by kernel_rfl) (fun _ _ _ h => h) (Or.inl ⟨by rfl, ?_⟩) hS ?_
  rotate_left
  focus (intro wS hSw; (try dsimp only at hSw); go_simp; (try with_reducible rfl); (try (first | (rw [if_pos (by omega)]; (try go_simp); (try with_reducible rfl)) | (rw [if_neg (by omega)]; (try go_simp); (try with_reducible rfl)))))
  try simp only [Act.put, List.setIfInBounds_toArray, List.set_cons_zero, List.set_cons_succ]
  refine wpAnyR_n1 (i := 24) rfl (by kernel_rfl) ?_
  intro K' hK
  rw [if_pos (by rfl)]
  simp only [List.getElem_toArray, List.getElem_cons_succ, List.getElem_cons_zero]
  go_wp2_with fail
  refine (HFR.out _ (HGD.out.trans G5)).mono ?_
  rintro e v6 ⟨A6, c6, rfl, l6, k6⟩
  have G6 := G5.trans k6
  go_wp2_with fail
  refine hK.out _ _ (.inr (fun _ => HSG.out _ G6)) ?_
  clear hK hS k6 G5
  have hS := HSG.out _ G6
  refine wpAnyR_n1 (i := 26) rfl (by kernel_rfl) ?_
  intro K' hK
  rw [if_pos (by rfl)]
  simp only [List.getElem_toArray, List.getElem_cons_succ, List.getElem_cons_zero]
  go_wp2_with fail
  refine (HRFR.out _ (HGD.out.trans G6)).mono ?_
  rintro e v7 ⟨A7, c7, rfl, l7, k7⟩
  have G7 := G6.trans k7
  replace l6 := l6.hold k7
  go_wp2_with fail
  refine hK.out _ _ (.inr (fun _ => HSG.out _ G7)) ?_
  clear hK hS k7 G6
  have hS := HSG.out _ G7
  refine wpAnyR_n1 (i := 27) rfl (by kernel_rfl) ?_
  intro K' hK
  rw [if_pos (by rfl)]
  simp only [List.getElem_toArray, List.getElem_cons_succ, List.getElem_cons_zero]
  go_wp2_with fail
  refine (same_val A6 A7 c6 c7 kr.length kr.length kr kr _ rfl rfl hrl hrl l6 l7 true (by simp)).mono ?_
  rintro e v8 ⟨rfl, k8⟩
  have G8 := G7.trans k8
  clear l6 l7
  go_wp2_with fail
  refine hK.out _ _ (.inr (fun _ => HSG.out _ G8)) ?_
  clear hK hS k8 G7
  have hS := HSG.out _ G8
  refine wpAnyR_takeQ (i := 28) (v := ?_) (some 64) rfl rfl (by kernel_rfl) (by kernel_rfl) (by kernel_rfl) (by kernel_rfl) (fun _ _ _ h => h) (Or.inl ⟨by rfl, ?_⟩) ?_
  rotate_left
  focus (intro wS hSw; (try dsimp only at hSw); go_simp; (try with_reducible rfl); (try (first | (rw [if_pos (by omega)]; (try go_simp); (try with_reducible rfl)) | (rw [if_neg (by omega)]; (try go_simp); (try with_reducible rfl)))))
  try simp only [Act.put, List.setIfInBounds_toArray, List.set_cons_zero, List.set_cons_succ]
  refine wpAnyR_takeQ (i := 29) (v := ?_) (some 65) rfl rfl (by kernel_rfl) (by kernel_rfl) (by kernel_rfl) (by kernel_rfl) (fun _ _ _ h => h) (Or.inl ⟨by rfl, ?_⟩) ?_
  rotate_left
  focus (intro wS hSw; (try dsimp only at hSw); go_simp; (try with_reducible rfl); (try (first | (rw [if_pos (by omega)]; (try go_simp); (try with_reducible rfl)) | (rw [if_neg (by omega)]; (try go_simp); (try with_reducible rfl)))))
  try simp only [Act.put, List.setIfInBounds_toArray, List.set_cons_zero, List.set_cons_succ]
  refine wpAnyR_take (i := 30) (v := ?_) [32, 35, 36, 37, 38, 39, 40, 41, 42, 43] (some 66) rfl rfl (by kernel_rfl) (by kernel_rfl) (by kernel_rfl) (by kernel_rfl) (by kernel_rfl) (by kernel_rfl) (by kernel_rfl) (fun _ _ _ h => h) (Or.inl ⟨by rfl, ?_⟩) hS ?_
  rotate_left
  focus (intro wS hSw; (try dsimp only at hSw); go_simp; (try with_reducible rfl); (try (first | (rw [if_pos (by omega)]; (try go_simp); (try with_reducible rfl)) | (rw [if_neg (by omega)]; (try go_simp); (try with_reducible rfl)))))
  try simp only [Act.put, List.setIfInBounds_toArray, List.set_cons_zero, List.set_cons_succ]
  refine wpAnyR_take (i := 31) (v := ?_) [32, 35, 36, 37, 38, 39, 40, 41, 42, 43] (some 67) rfl rfl (by kernel_rfl) (by kernel_rfl) (by kernel_rfl) (by kernel_rfl) (by kernel_rfl) (by kernel_rfl) (by kernel_rfl) (fun _ _ _ h => h) (Or.inl ⟨by rfl, ?_⟩) hS ?_
  rotate_left
  focus (intro wS hSw; (try dsimp only at hSw); go_simp; (try with_reducible rfl); (try (first | (rw [if_pos (by omega)]; (try go_simp); (try with_reducible rfl)) | (rw [if_neg (by omega)]; (try go_simp); (try with_reducible rfl)))))
  try simp only [Act.put, List.setIfInBounds_toArray, List.set_cons_zero, List.set_cons_succ]
  refine wpAnyR_take (i := 33) (v := ?_) [35, 36, 37, 38, 39, 40, 41, 42, 43] (some 69) rfl rfl (by kernel_rfl) (by kernel_rfl) (by kernel_rfl) (by kernel_rfl) (by kernel_rfl) (by kernel_rfl) (by kernel_rfl) (fun _ _ _ h => h) (Or.inl ⟨by rfl, ?_⟩) hS ?_
  rotate_left
  focus (intro wS hSw; (try dsimp only at hSw); go_simp; (try with_reducible rfl); (try (first | (rw [if_pos (by omega)]; (try go_simp); (try with_reducible rfl)) | (rw [if_neg (by omega)]; (try go_simp); (try with_reducible rfl)))))
  try simp only [Act.put, List.setIfInBounds_toArray, List.set_cons_zero, List.set_cons_succ]
  refine wpAnyR_take (i := 34) (v := ?_) [35, 36, 37, 38, 39, 40, 41, 42, 43] (some 70) rfl rfl (by kernel_rfl) (by kernel_rfl) (by kernel_rfl) (by kernel_rfl) (by kernel_rfl) (by kernel_rfl) (by kernel_rfl) (fun _ _ _ h => h) (Or.inl ⟨by rfl, ?_⟩) hS ?_
  rotate_left
  focus (intro wS hSw; (try dsimp only at hSw); go_simp; (try with_reducible rfl); (try (first | (rw [if_pos (by omega)]; (try go_simp); (try with_reducible rfl)) | (rw [if_neg (by omega)]; (try go_simp); (try with_reducible rfl)))))
  try simp only [Act.put, List.setIfInBounds_toArray, List.set_cons_zero, List.set_cons_succ]
  refine wpAnyR_n1 (i := 32) rfl (by kernel_rfl) ?_
  intro K' hK
  rw [if_pos (by rfl)]
  simp only [List.getElem_toArray, List.getElem_cons_succ, List.getElem_cons_zero]
  go_wp2_with fail
  refine (HSA.out _ (HGD.out.trans G8)).mono ?_
  rintro e v9 ⟨rfl, k9⟩
  have G9 := G8.trans k9
  go_wp2_with fail
  refine hK.out _ _ (.inr (fun _ => HSG.out _ G9)) ?_
  clear hK hS k9 G8
  have hS := HSG.out _ G9
  refine wpAnyR_n1 (i := 35) rfl (by kernel_rfl) ?_
  intro K' hK
  rw [if_pos (by rfl)]
  simp only [List.getElem_toArray, List.getElem_cons_succ, List.getElem_cons_zero]
  go_wp2_with fail
  refine (HRSA.out _ (HGD.out.trans G9)).mono ?_
  rintro e v10 ⟨rfl, k10⟩
  have G10 := G9.trans k10
  go_wp2_with fail
  refine hK.out _ _ (.inr (fun _ => HSG.out _ G10)) ?_
  clear hK hS k10 G9
  have hS := HSG.out _ G10
  refine wpAnyR_takeQ (i := 36) (v := ?_) (some 72) rfl rfl (by kernel_rfl) (by kernel_rfl) (by kernel_rfl) (by kernel_rfl) (fun _ _ _ h => h) (Or.inl ⟨by rfl, ?_⟩) ?_
  rotate_left
  focus (intro wS hSw; (try dsimp only at hSw); go_simp; (try with_reducible rfl); (try (first | (rw [if_pos (by omega)]; (try go_simp); (try with_reducible rfl)) | (rw [if_neg (by omega)]; (try go_simp); (try with_reducible rfl)))))
  try simp only [Act.put, List.setIfInBounds_toArray, List.set_cons_zero, List.set_cons_succ]
  try rw [hss]
  refine wpAnyR_takeQ (i := 37) (v := ?_) (some 73) rfl rfl (by kernel_rfl) (by kernel_rfl) (by kernel_rfl) (by kernel_rfl) (fun _ _ _ h => h) (Or.inl ⟨by rfl, ?_⟩) ?_
  rotate_left
  focus (intro wS hSw; (try dsimp only at hSw); go_simp; (try with_reducible rfl); (try (first | (rw [if_pos (by omega)]; (try go_simp); (try with_reducible rfl)) | (rw [if_neg (by omega)]; (try go_simp); (try with_reducible rfl)))))
  try simp only [Act.put, List.setIfInBounds_toArray, List.set_cons_zero, List.set_cons_succ]
  refine wpAnyR_takeQ (i := 38) (v := ?_) (some 74) rfl rfl (by kernel_rfl) (by kernel_rfl) (by kernel_rfl) (by kernel_rfl) (fun _ _ _ h => h) (Or.inl ⟨by rfl, ?_⟩) ?_
  rotate_left
  focus (intro wS hSw; (try dsimp only at hSw); go_simp; (try with_reducible rfl); (try (first | (rw [if_pos (by omega)]; (try go_simp); (try with_reducible rfl)) | (rw [if_neg (by omega)]; (try go_simp); (try with_reducible rfl)))))
  try simp only [Act.put, List.setIfInBounds_toArray, List.set_cons_zero, List.set_cons_succ]
  refine wpAnyR_take (i := 39) (v := ?_) [41, 42, 43] (some 75) rfl rfl (by kernel_rfl) (by kernel_rfl) (by kernel_rfl) (by kernel_rfl) (by kernel_rfl) (by kernel_rfl) (by kernel_rfl) (fun _ _ _ h => h) (Or.inl ⟨by rfl, ?_⟩) hS ?_
  rotate_left
  focus (intro wS hSw; (try dsimp only at hSw); go_simp; (try with_reducible rfl); (try (first | (rw [if_pos (by omega)]; (try go_simp); (try with_reducible rfl)) | (rw [if_neg (by omega)]; (try go_simp); (try with_reducible rfl)))))
  try simp only [Act.put, List.setIfInBounds_toArray, List.set_cons_zero, List.set_cons_succ]
  refine wpAnyR_take (i := 40) (v := ?_) [41, 42, 43] (some 76) rfl rfl (by kernel_rfl) (by kernel_rfl) (by kernel_rfl) (by kernel_rfl) (by kernel_rfl) (by kernel_rfl) (by kernel_rfl) (fun _ _ _ h => h) (Or.inl ⟨by rfl, ?_⟩) hS ?_
  rotate_left
  focus (intro wS hSw; (try dsimp only at hSw); go_simp; (try with_reducible rfl); (try (first | (rw [if_pos (by omega)]; (try go_simp); (try with_reducible rfl)) | (rw [if_neg (by omega)]; (try go_simp); (try with_reducible rfl)))))
  try simp only [Act.put, List.setIfInBounds_toArray, List.set_cons_zero, List.set_cons_succ]
  refine wpAnyR_n1 (i := 41) rfl (by kernel_rfl) ?_
  intro K' hK
  rw [if_pos (by rfl)]
  simp only [List.getElem_toArray, List.getElem_cons_succ, List.getElem_cons_zero]
  go_wp2_with fail
  refine (HSS.out _ (HGD.out.trans G10)).mono ?_
  rintro e v11 ⟨rfl, k11⟩
  have G11 := G10.trans k11
  go_wp2_with fail
  refine hK.out _ _ (.inr (fun _ => HSG.out _ G11)) ?_
  clear hK hS k11 G10
  have hS := HSG.out _ G11
  refine wpAnyR_takeQ (i := 42) (v := ?_) (some 78) rfl rfl (by kernel_rfl) (by kernel_rfl) (by kernel_rfl) (by kernel_rfl) (fun _ _ _ h => h) (Or.inl ⟨by rfl, ?_⟩) ?_
  rotate_left
  focus (intro wS hSw; (try dsimp only at hSw); go_simp; (try with_reducible rfl); (try (first | (rw [if_pos (by omega)]; (try go_simp); (try with_reducible rfl)) | (rw [if_neg (by omega)]; (try go_simp); (try with_reducible rfl)))))
  try simp only [Act.put, List.setIfInBounds_toArray, List.set_cons_zero, List.set_cons_succ]
  refine wpAnyR_takeQ (i := 43) (v := ?_) (some 6) rfl rfl (by kernel_rfl) (by kernel_rfl) (by kernel_rfl) (by kernel_rfl) (fun _ _ _ h => h) (Or.inl ⟨by rfl, ?_⟩) ?_
  rotate_left
  focus (intro wS hSw; (try dsimp only at hSw); go_simp; (try with_reducible rfl); (try (first | (rw [if_pos (by omega)]; (try go_simp); (try with_reducible rfl)) | (rw [if_neg (by omega)]; (try go_simp); (try with_reducible rfl)))))
  try simp only [Act.put, List.setIfInBounds_toArray, List.set_cons_zero, List.set_cons_succ]
  refine wpAnyR_done (by kernel_rfl) ?_ _
  clear hS
  go_wp2_with fail
  go_ret
  exact ⟨rfl, HGD.out.trans G11⟩
end
end Go.Proofs.YtnlaogneceanoaaGreat
