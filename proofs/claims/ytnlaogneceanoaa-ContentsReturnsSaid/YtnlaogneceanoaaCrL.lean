/- Chapter 8: Sector, on both sides; awake's tables. Chapter 8: awake. Chapter 8: a table as an argument; Few. Chapter 8: Same, on both sides. Chapter 8: ContentsReturns. -/
import Derived.IntWalk
import Derived.Test.YtnlaogneceanoaaCrB
import Derived.Test.YtnlaogneceanoaaCrD
import Derived.Test.YtnlaogneceanoaaCrE
import Derived.Test.YtnlaogneceanoaaCrF
import Derived.Test.YtnlaogneceanoaaCrI
import Derived.Test.YtnlaogneceanoaaCrJ
import Derived.Test.YtnlaogneceanoaaCrK
namespace Go.Proofs.Ytnlaogneceanoaa
set_option linter.unusedVariables false
set_option linter.unusedSimpArgs false
set_option linter.unusedSectionVars false
open Go.RowKit
def sectorS (l : List (Int × Int)) (s : Int) : Int × Bool := if s < 0 then (0, false) else if (atS l (s / 8)).2 = true then ((atS l (s / 8)).1 * 8 + s % 8, true) else (0, false)
theorem at_bd (l : List (Int × Int)) (t : Int) (h0 : 0 ≤ t) (h : (atS l t).2 = true) : ∃ k : Nat, (atS l t).1 = (k : Int) ∧ k < 128 ∧ inT l (k : Int) = true ∧ (seqS l)[t.toNat]? = some k := by
  obtain ⟨n, rfl⟩ : ∃ n : Nat, t = (n : Int) := ⟨t.toNat, by omega⟩
  rw [atS_pick] at h ⊢
  unfold pickT at h ⊢
  by_cases hn : n < (seqS l).length
  · rw [if_pos hn]
    have hm : (seqS l)[n] ∈ seqS l := List.getElem_mem hn
    refine ⟨(seqS l)[n], by simp [hn], seqS_lt l _ hm, by rw [inT_nat]; exact (mem_seqS l _).1 hm, by rw [Int.toNat_natCast, List.getElem?_eq_getElem hn]⟩
  · rw [if_neg hn] at h; cases h
theorem sectorS_neg (l : List (Int × Int)) (s : Int) (h : s < 0) : sectorS l s = (0, false) := if_pos h
theorem sectorS_cases (l : List (Int × Int)) (s : Int) (h : 0 ≤ s) : ((atS l (s / 8)).2 = false ∧ sectorS l s = (0, false)) ∨ ∃ k : Nat, atS l (s / 8) = ((k : Int), true) ∧ k < 128 ∧ inT l (k : Int) = true ∧ (seqS l)[(s / 8).toNat]? = some k ∧ sectorS l s = ((k : Int) * 8 + s % 8, true) := by
  cases hc : (atS l (s / 8)).2 with
  | false => exact .inl ⟨rfl, by unfold sectorS; rw [if_neg (by omega), if_neg (by rw [hc]; simp)]⟩
  | true =>
    obtain ⟨k, h1, h2, h3, h4⟩ := at_bd l (s / 8) (by omega) hc
    exact .inr ⟨k, Prod.ext h1 hc, h2, h3, h4, by unfold sectorS; rw [if_neg (by omega), if_pos hc, h1]⟩
section
variable (A : Option Addr) (c : Nat) (l : Lab) (w : World)
set_option maxRecDepth 100000 in
set_option maxHeartbeats 2000000 in
theorem sector_lab (hla : LabAt w A c l) (hs : l.ext.length ≤ 1000) (s : Int) (s0 : -9223372036854775808 ≤ s) (s1 : s ≤ 9223372036854775807) (a : Int) (b : Bool) (hab : sectorS l.ext s = (a, b)) :
    Calls Try.prog 9 #[.agg #[.int .i64 l.id, .int .i64 l.unit, .string l.name, .string l.note, .slice A l.ext.length c], .int .i64 s] w fun e w' => e = .returned (.tuple #[.int .i64 a, .bool b]) ∧ Grew w w' := by
  have hg0 := (Grew.refl w).alloc (.cells #[.int .i64 l.id, .int .i64 l.unit, .string l.name, .string l.note, .slice A l.ext.length c] 24)
  by_cases hn : s < 0
  · rw [sectorS_neg _ _ hn] at hab
    injection hab with e1 e2
    subst e1; subst e2
    go_enter Try.func9, Try.ntmps9
    go_wp2_with fail
    go_returns
    exact ⟨rfl, by (repeat' first | (with_reducible exact Grew.refl _) | (with_reducible assumption) | (with_reducible refine Grew.alloc ?_ _) | (with_reducible refine Grew.drew ?_) | (with_reducible refine Grew.drewN ?_ _) | (with_reducible refine Grew.setRow ?_ (by first | (simp; done) | (simp; omega) | omega) _) | (with_reducible refine Grew.setCell ?_ (by first | (simp; done) | (simp; omega) | omega) _) | ((with_reducible apply Grew.trans); rotate_left; (with_reducible assumption)) | ((with_reducible apply Grew.turn); rotate_left; (with_reducible assumption); (focus (intro i hi; first | omega | (simp at hi; omega)))) | fail)⟩
  have hs0 : 0 ≤ s := by omega
  have HC := Lib.hid (fun w1 (hg : Grew w w1) => at_val A c _ l.ext _ rfl (by omega) (hla.hold hg).runs (s / 8) (by omega) (by omega))
  have hd : s.tdiv 8 = s / 8 := Int.tdiv_eq_ediv_of_nonneg hs0
  have hm : s.tmod 8 = s % 8 := Int.tmod_eq_emod_of_nonneg hs0
  rcases sectorS_cases l.ext s hs0 with ⟨h2, hx⟩ | ⟨k, h1, h2, _, _, hx⟩
  · rw [hx] at hab
    injection hab with e1 e2
    subst e1; subst e2
    obtain ⟨⟨x, y⟩, hxy⟩ : ∃ p, atS l.ext (s / 8) = p := ⟨_, rfl⟩
    rw [hxy] at h2
    simp only at h2
    subst h2
    have HX := Lib.hid (show (if s / 8 < 0 then ((0, false) : Int × Bool) else atS l.ext (s / 8)) = (x, false) from by rw [if_neg (by omega), hxy])
    clear hx hxy hla
    go_enter Try.func9, Try.ntmps9
    go_wp2_with fail
    refine (HC.out _ hg0 _ _ HX.out).mono ?_
    rintro e w2 ⟨rfl, g2⟩
    go_wp2_with fail
    go_returns
    exact ⟨rfl, hg0.trans g2⟩
  · rw [hx] at hab
    injection hab with e1 e2
    subst e2
    have HX := Lib.hid (show (if s / 8 < 0 then ((0, false) : Int × Bool) else atS l.ext (s / 8)) = ((k : Int), true) from by rw [if_neg (by omega), h1])
    have hmb : 0 ≤ s % 8 ∧ s % 8 < 8 := by omega
    have HA := Lib.hid e1
    clear hx h1 hla e1
    go_enter Try.func9, Try.ntmps9
    go_wp2_with fail
    refine (HC.out _ hg0 _ _ HX.out).mono ?_
    rintro e w2 ⟨rfl, g2⟩
    go_wp2_with fail
    go_returns
    exact ⟨ret_ib (by rw [← HA.out] <;> omega) rfl, hg0.trans g2⟩
end
def awS : ByteArray := ⟨#[86, 79, 76]⟩
def awN : ByteArray := ⟨#[110, 111, 116, 101]⟩
def awT1 : Tab := ⟨awS, 16, [labZ, labZ, labZ]⟩
def awT2 : Tab := ⟨awS, 16, [⟨5, 2, ⟨#[65]⟩, ⟨#[]⟩, [(4, 3)]⟩, labZ, labZ]⟩
def awT3 : Tab := ⟨awS, 16, [⟨5, 0, ⟨#[65]⟩, awN, [(4, 3)]⟩, labZ, labZ]⟩
theorem aw_new : newT awS 16 = (awT1, 0) := by kernel_rfl
theorem aw_create : createT awT1 5 2 ⟨#[65]⟩ ⟨#[]⟩ 3 = (awT2, 0) := by kernel_rfl
theorem aw_confirm : chgT awT2 5 2 (chCon awT2 5 awN) = (awT3, 0) := by kernel_rfl
theorem aw_find : fndT awT3 5 0 = (⟨5, 0, ⟨#[65]⟩, awN, [(4, 3)]⟩, true) := by kernel_rfl
theorem aw_sector : sectorS [(4, 3)] 9 = (41, true) := by decide +kernel
end Go.Proofs.Ytnlaogneceanoaa
namespace Go.Proofs.Ytnlaogneceanoaa
set_option linter.unusedVariables false
set_option linter.unusedSimpArgs false
set_option linter.unusedSectionVars false
open Go.RowKit
theorem small_of (T : Tab) (h1 : T.labels.length ≤ 1000) (h2 : T.labels.all (fun l => decide (l.ext.length ≤ 1000)) = true) : SmallT T :=
  ⟨h1, fun l hl => by have := List.all_eq_true.1 h2 l hl; simpa using this⟩
/-- A variable that holds a table gets another one. -/
theorem Blk.tab {w : World} {g : Nat} {t : TypeId} {s0 s1 : ByteArray} {i0 i1 : Int} {a0 a1 : Option Addr} {n0 c0 n1 c1 : Nat} (h : Blk w g t #[.string s0, .int .i64 i0, .slice a0 n0 c0]) : Blk (((w.setCell ⟨g, 0, none⟩ (.string s1)).setCell ⟨g, 1, none⟩ (.int .i64 i1)).setCell ⟨g, 2, none⟩ (.slice a1 n1 c1)) g t #[.string s1, .int .i64 i1, .slice a1 n1 c1] :=
  ((h.set_ 0 _).set_ 1 _).set_ 2 _
theorem tab3_turned (w : World) (g : Nat) (a b c : Value) : Turned (fun x => x = g) w (((w.setCell ⟨g, 0, none⟩ a).setCell ⟨g, 1, none⟩ b).setCell ⟨g, 2, none⟩ c) :=
  ((set_turned w g 0 a).trans (set_turned _ g 1 b)).trans (set_turned _ g 2 c)
theorem Grew.tab3 {a w : World} (h : Grew a w) {g : Nat} (hg : a.heap.size ≤ g) (x y z : Value) : Grew a (((w.setCell ⟨g, 0, none⟩ x).setCell ⟨g, 1, none⟩ y).setCell ⟨g, 2, none⟩ z) := ((h.setCell (p := ⟨g, 0, none⟩) hg x).setCell (p := ⟨g, 1, none⟩) hg y).setCell (p := ⟨g, 2, none⟩) hg z
set_option maxRecDepth 100000 in
set_option maxHeartbeats 8000000 in
theorem awake_con (w : World) : Calls Try.prog 7 #[] w fun e w' => e = .returned (.bool true) ∧ Grew w w' := by
  have HNEW := Lib.hid (fun w => new_tab awS 16 w (by decide) (by omega) (by omega) awT1 0 aw_new)
  have HCR := Lib.hid (fun A c xs w (h : TabAt w A c xs awT1) => create_tab A c xs awT1 5 2 w h (small_of _ (by decide) (by decide)) ⟨#[65]⟩ ⟨#[]⟩ (by decide) (by decide) 3 (by omega) (by omega) awT2 0 aw_create)
  have HCF := Lib.hid (fun A c xs w (h : TabAt w A c xs awT2) => confirm_tab A c xs awT2 5 2 w h (small_of _ (by decide) (by decide)) awN (by decide) awT3 0 aw_confirm)
  have HFD := Lib.hid (fun A c xs w (h : TabAt w A c xs awT3) => find_tab A c xs awT3 w h (small_of _ (by decide) (by decide)) _ rfl 5 0 ⟨5, 0, ⟨#[65]⟩, awN, [(4, 3)]⟩ true aw_find)
  have hn3 : awT3.labels.length = 3 := rfl
  have hnl : awN.toList = [110, 111, 116, 101] := by kernel_rfl
  go_enter Try.func7, Try.ntmps7
  go_wp2_with fail
  refine (HNEW.out _).mono ?_
  rintro e w1 ⟨A1, c1, xs1, rfl, ht1, g1⟩
  have ga : Grew w1 (w1.alloc (.cells #[.string awT1.name, .int .i64 awT1.tracks, .slice A1 awT1.labels.length c1] 34)) := (Grew.refl w1).alloc _
  have HT1 := Lib.hid (ht1.hold ga)
  have HB1 := Lib.hid (Blk.new w1 34 #[.string awT1.name, .int .i64 awT1.tracks, .slice A1 awT1.labels.length c1] rfl)
  have HG1 := Lib.hid (g1.trans ga)
  have HW1 := Lib.hid g1.size
  clear ht1 ga g1
  go_wp2_with fail
  refine (HCR.out A1 c1 xs1 _ HT1.out).mono ?_
  rintro e w2 ⟨A2, c2, xs2, rfl, ht2, g2⟩
  have hb2 := HB1.out.grew g2
  have z0 := hb2.cell 0
  have z1 := hb2.cell 1
  have z2 := hb2.cell 2
  have f0 := hb2.frozen 0
  have f1 := hb2.frozen 1
  have f2 := hb2.frozen 2
  have hzl := hb2.lt
  have HT2 := Lib.hid (ht2.apart hb2 (tab3_turned w2 w1.heap.size (.string awT2.name) (.int .i64 awT2.tracks) (.slice A2 awT2.labels.length c2)))
  have HB2 := Lib.hid (hb2.tab (s1 := awT2.name) (i1 := awT2.tracks) (a1 := A2) (n1 := awT2.labels.length) (c1 := c2))
  have HG2 := Lib.hid ((HG1.out.trans g2).tab3 HW1.out (.string awT2.name) (.int .i64 awT2.tracks) (.slice A2 awT2.labels.length c2))
  clear ht2 g2 hb2
  go_wp2_with fail
  refine (HCF.out A2 c2 xs2 _ HT2.out).mono ?_
  rintro e w3 ⟨A3, c3, xs3, rfl, ht3, g3⟩
  clear z0 z1 z2 f0 f1 f2 hzl
  have hb3 := HB2.out.grew g3
  have z0 := hb3.cell 0
  have z1 := hb3.cell 1
  have z2 := hb3.cell 2
  have f0 := hb3.frozen 0
  have f1 := hb3.frozen 1
  have f2 := hb3.frozen 2
  have hzl := hb3.lt
  have HT3 := Lib.hid (ht3.apart hb3 (tab3_turned w3 w1.heap.size (.string awT3.name) (.int .i64 awT3.tracks) (.slice A3 awT3.labels.length c3)))
  have HB3 := Lib.hid (hb3.tab (s1 := awT3.name) (i1 := awT3.tracks) (a1 := A3) (n1 := awT3.labels.length) (c1 := c3))
  have HG3 := Lib.hid ((HG2.out.trans g3).tab3 HW1.out (.string awT3.name) (.int .i64 awT3.tracks) (.slice A3 awT3.labels.length c3))
  clear ht3 g3 hb3
  go_wp2_with fail
  refine (HFD.out A3 c3 xs3 _ HT3.out).mono ?_
  rintro e w4 ⟨B4, d4, rfl, hl4, g4⟩
  clear z0 z1 z2 f0 f1 f2 hzl
  have gb : Grew w4 (w4.alloc (.cells #[.int .i64 5, .int .i64 0, .string ⟨#[65]⟩, .string awN, .slice B4 1 d4] 24)) := (Grew.refl w4).alloc _
  have HL4 := Lib.hid (hl4.hold gb)
  have HN4 := Lib.hid (Blk.new w4 24 #[.int .i64 5, .int .i64 0, .string ⟨#[65]⟩, .string awN, .slice B4 1 d4] rfl)
  have HB4 := Lib.hid ((HB3.out.grew g4).grew gb)
  have HG4 := Lib.hid ((HG3.out.trans g4).trans gb)
  clear hl4 gb g4
  go_wp2_with fail
  refine (sector_lab B4 d4 _ _ HL4.out (by decide) 9 (by omega) (by omega) 41 true aw_sector).mono ?_
  rintro e w5 ⟨rfl, g5⟩
  have hn5 := HN4.out.grew g5
  have y3 := hn5.cell 3
  have y4 := hn5.cell 4
  have hyl := hn5.lt
  have hb5 := HB4.out.grew g5
  have z2 := hb5.cell 2
  have hzl := hb5.lt
  have ga5 : Grew w5 (w5.alloc (.cells #[.int .i64 4, .int .i64 3] 58)) := (Grew.refl w5).alloc _
  have r5 : RunsAt (w5.alloc (.cells #[.int .i64 4, .int .i64 3] 58)) (w5.alloc (.cells #[.int .i64 4, .int .i64 3] 58)).heap.size (some ⟨w5.heap.size, 0, none⟩) [(4, 3)] := blk_runs (Blk.new w5 _ _ rfl) rfl (by simp [okRun])
  have HS := Lib.hid (same_val B4 (some ⟨w5.heap.size, 0, none⟩) d4 1 1 1 [(4, 3)] [(4, 3)] _ rfl rfl (by decide) (by decide) ((HL4.out.hold g5).hold ga5).runs r5 true (by decide))
  have HB6 := Lib.hid (hb5.grew ga5)
  have HG5 := Lib.hid ((HG4.out.trans g5).trans ga5)
  clear r5 ga5 hn5 hb5 g5
  go_wp2_with fail
  refine HS.out.mono ?_
  rintro e w6 ⟨rfl, g6⟩
  clear z2 hzl
  have hb6 := HB6.out.grew g6
  have z2 := hb6.cell 2
  have hzl := hb6.lt
  go_wp2_with fail
  go_ret
  exact ⟨rfl, HG5.out.trans g6⟩
end Go.Proofs.Ytnlaogneceanoaa
namespace Go.Proofs.Ytnlaogneceanoaa
set_option linter.unusedVariables false
set_option linter.unusedSimpArgs false
set_option linter.unusedSectionVars false
open Go.ChangeShapes Go.WideShapes Go.ChangeAt Go.RowKit Go.Deep
attribute [local go_sem ↓] Go.wp_at_zero Go.wp_at_succ
section
variable {H : Type} {enc : TypeId × Value → H} {w : World}
set_option maxRecDepth 100000 in
theorem open_tabC {n : Nat} {cs : List Value} {y : DataW H × List MemPlace} (hlen : cs.length = 3) (h : DataW.trod enc Try.prog w 0 (fun _ => true) true n 34 cs = some y) :
    ∃ A c, ∃ T : Tab, cs = [.string T.name, .int .i64 T.tracks, .slice A T.labels.length c] ∧ ∃ xs, TabAt w A c xs T := by
  have hf := struct_fields Try.underlying34 (by kernel_rfl) h
  obtain ⟨v0, _, _, e0, f0⟩ := hf 0 _ rfl (by omega)
  obtain ⟨v1, _, _, e1, f1⟩ := hf 1 _ rfl (by omega)
  obtain ⟨v2, _, _, e2, f2⟩ := hf 2 _ rfl (by omega)
  obtain ⟨n0, hn0, _, w0⟩ := DataW.trod_string Try.underlying9 f0
  obtain ⟨n1, hn1, _, w1⟩ := DataW.trod_int Try.underlying3 f1
  obtain ⟨A, c, xs, rfl, h1, h2, h3, h4⟩ := open_listF (α := LabE) (sz := 5) Try.underlying32 (by kernel_rfl) (by omega) labC (fun x => LabAt w x.A x.c x.l) (fun n cs y hlen h => by
      obtain ⟨A, c, l, hcs, hl⟩ := open_labelC hlen h
      exact ⟨⟨A, c, l⟩, hl, hcs⟩) f2
  injection hn0 with hn0 _
  injection hn1 with hn1 _
  subst hn0; subst hn1
  have b1 := wf_i64 w1
  unfold maxLen at w0
  refine ⟨A, c, ⟨n0, n1, xs.map (·.l)⟩, ?_, xs, ⟨h3, h4, h1, h2, rfl, b1.1, b1.2, by simpa using w0⟩⟩
  match cs, hlen with
  | [x0, x1, x2], _ =>
    simp at e0 e1 e2
    rw [e0, e1, e2]
    simp
set_option maxRecDepth 100000 in
theorem open_tab {r : Reach} {b0 : Nat} {v : Value} {d : DataW H} {ps : List MemPlace} (hv : Value.okWide Try.prog w r b0 34 v) (hd : DataW.Trod enc Try.prog w 0 (fun _ => true) true 34 v d ps) :
    ∃ A c, ∃ T : Tab, v = .agg #[.string T.name, .int .i64 T.tracks, .slice A T.labels.length c] ∧ ∃ xs, TabAt w A c xs T := by
  obtain ⟨cs, rfl, hsz⟩ := okWide_struct Try.underlying34 hv
  obtain ⟨fuel, hf⟩ := hd
  obtain ⟨A, c, T, hcs, h⟩ := open_tabC (cs := cs.toList) (by rw [Array.length_toList, hsz]; kernel_rfl) hf
  refine ⟨A, c, T, ?_, h⟩
  congr 1
  exact Array.toList_inj.1 hcs
end
def fewT (T : Tab) : Bool := T.labels.all fewL && (decide (T.name.size ≤ 100) && decide (T.labels.length ≤ 40))
theorem fewT_facts {T : Tab} (h : fewT T = true) : SmallT T ∧ T.name.size ≤ 100 ∧ T.labels.length ≤ 40 ∧ ∀ l ∈ T.labels, fewL l = true := by
  unfold fewT at h
  simp only [Bool.and_eq_true, decide_eq_true_eq, List.all_eq_true] at h
  obtain ⟨h1, h2, h3⟩ := h
  exact ⟨⟨by omega, fun l hl => by have := (fewL_len l (h1 l hl)).2.2; omega⟩, h2, h3, h1⟩
set_option maxRecDepth 100000 in
set_option maxHeartbeats 4000000 in
theorem fewT_any (A : Option Addr) (c : Nat) (xs : List LabE) (T : Tab) (w : World) (h : TabAt w A c xs T) :
    Calls Try.prog 13 #[.agg #[.string T.name, .int .i64 T.tracks, .slice A T.labels.length c]] w fun e w' => e = .returned (.bool (fewT T)) ∧ Grew w w' := by
  have hnm := h.name
  have hll : T.labels.length ≤ 9223372036854775807 := by rw [← h.xlen]; exact Nat.le_trans h.len h.cap
  have hg0 := (Grew.refl w).alloc (.cells #[.string T.name, .int .i64 T.tracks, .slice A T.labels.length c] 34)
  have hb0 := Blk.new w 34 #[.string T.name, .int .i64 T.tracks, .slice A T.labels.length c] rfl
  have HTB := Lib.hid h
  have HFE := Lib.hid (show fewT T = (T.labels.all fewL && (decide (T.name.size ≤ 100) && decide (T.labels.length ≤ 40))) from rfl)
  clear h
  have x2 := hb0.cell 2
  go_enter Try.func13, Try.ntmps13
  go_wp2_with fail
  go_loopg [3] T.labels.length (fun gk i wr => ∃ k : Nat, k ≤ T.labels.length ∧ gk = T.labels.length - k ∧ i = .int .i64 k ∧ (∀ j (hj : j < T.labels.length), j < k → fewL T.labels[j] = true) ∧ Blk wr w.heap.size 34 #[.string T.name, .int .i64 T.tracks, .slice A T.labels.length c] ∧ Grew w wr)
  case atStart => exact ⟨0, by omega, by omega, rfl, fun j _ h => by omega, hb0, hg0⟩
  case round =>
    obtain ⟨k, hk, hgk, rfl, hall, hb, hg⟩ := hrel
    have HGK := Lib.hid hgk
    have HA := Lib.hid hall
    have HG := Lib.hid hg
    have HB := Lib.hid hb
    clear x2
    have x0 := hb.cell 0
    have x2 := hb.cell 2
    have hbl0 := hb.lt
    clear hgk hall hb0 hg0
    by_cases hlt : k < T.labels.length
    · obtain ⟨b, off, B, d, l, rfl, hbl, hxk, hv, hla, c0, c1, c2, c3, c4⟩ := (HTB.out.hold hg).at_ hlt
      have HF := Lib.hid (few_any B d l wr hla)
      have HV := Lib.hid hv
      clear hv hxk hla hb hg
      go_wp2_with fail
      refine HF.out.mono ?_
      rintro e w3 ⟨rfl, g3⟩
      cases hfl : fewL l with
      | false =>
        have HE := Lib.hid (show fewT T = false from by
          rw [HFE.out]
          have : T.labels.all fewL = false := List.all_eq_false.2 ⟨T.labels[k], List.getElem_mem hlt, by rw [HV.out, hfl]; simp⟩
          rw [this]; rfl)
        clear hfl
        go_wp2_with fail
        go_ret
        exact ⟨ret_bool (by rw [HE.out]), HG.out.trans g3⟩
      | true =>
        have HN := Lib.hid (show ∀ j (hj : j < T.labels.length), j < k + 1 → fewL T.labels[j] = true from fun j hj hjk => by
          by_cases hjk' : j = k
          · subst hjk'; rw [HV.out]; exact hfl
          · exact HA.out j hj (by omega))
        have HB3 := Lib.hid (HB.out.grew g3)
        have HG3 := Lib.hid (HG.out.trans g3)
        clear hfl g3
        go_wp2_with fail
        go_roundg (T.labels.length - (k + 1))
        case measure => rw [HGK.out]; omega
        case rel => exact ⟨k + 1, by omega, by omega, by go_num, HN.out, HB3.out, HG3.out⟩
    · have HAL := Lib.hid (show T.labels.all fewL = true from List.all_eq_true.2 (fun l hl => by
        obtain ⟨j, hj, rfl⟩ := List.getElem_of_mem hl
        exact HA.out j hj (by omega)))
      clear hb hg
      by_cases h1 : T.name.size ≤ 100
      · have h1i : (T.name.size : Int) ≤ 100 := by omega
        by_cases h2 : T.labels.length ≤ 40
        · have h2i : (T.labels.length : Int) ≤ 40 := by omega
          have HE := Lib.hid (HFE.out.trans (by rw [HAL.out, decide_eq_true h1, decide_eq_true h2]; rfl) : fewT T = true)
          go_wp2_with fail
          go_ret
          exact ⟨ret_bool (by rw [HE.out]), HG.out⟩
        · have h2i : ¬ (T.labels.length : Int) ≤ 40 := by omega
          have HE := Lib.hid (HFE.out.trans (by rw [HAL.out, decide_eq_true h1, decide_eq_false h2]; rfl) : fewT T = false)
          go_wp2_with fail
          go_ret
          exact ⟨ret_bool (by rw [HE.out]), HG.out⟩
      · have h1i : ¬ (T.name.size : Int) ≤ 100 := by omega
        have HE := Lib.hid (HFE.out.trans (by rw [HAL.out, decide_eq_false h1]; rfl) : fewT T = false)
        go_wp2_with fail
        go_ret
        exact ⟨ret_bool (by rw [HE.out]), HG.out⟩
end Go.Proofs.Ytnlaogneceanoaa
namespace Go.Proofs.Ytnlaogneceanoaa
set_option linter.unusedVariables false
set_option linter.unusedSimpArgs false
set_option linter.unusedSectionVars false
open Go.RowKit
attribute [local go_sem ↓] Go.wp_at_zero Go.wp_at_succ
instance : DecidableEq Lab := fun a b => decidable_of_iff (eqL a b = true) (eqL_iff a b)
def sameT (T U : Tab) : Bool := (T.name.toList == U.name.toList) && ((T.tracks == U.tracks) && decide (T.labels = U.labels))
theorem labs_len {ls ms : List Lab} (h : ls.length ≠ ms.length) : decide (ls = ms) = false := decide_eq_false (fun e => h (by rw [e]))
theorem labs_ne {ls ms : List Lab} (k : Nat) (h1 : k < ls.length) (h2 : k < ms.length) (h : eqL ls[k] ms[k] = false) : decide (ls = ms) = false := decide_eq_false (fun e => by
  subst e
  rw [(eqL_iff _ _).2 rfl] at h
  cases h)
theorem labs_eq {ls ms : List Lab} (hl : ls.length = ms.length) (h : ∀ j (h1 : j < ls.length) (h2 : j < ms.length), eqL ls[j] ms[j] = true) : decide (ls = ms) = true :=
  decide_eq_true (List.ext_getElem hl (fun j h1 h2 => (eqL_iff _ _).1 (h j h1 h2)))
section
variable (A A2 : Option Addr) (c c2 : Nat) (xs ys : List LabE) (T U : Tab) (w : World)
set_option maxRecDepth 100000 in
set_option maxHeartbeats 4000000 in
theorem equalF_any (h : TabAt w A c xs T) (hs : SmallT T) (h2 : TabAt w A2 c2 ys U) (hs2 : SmallT U) :
    Calls Try.prog 61 #[.slice A T.labels.length c, .slice A2 U.labels.length c2, .func (.func 62) #[] #[]] w fun e w' => e = .returned (.bool (decide (T.labels = U.labels))) ∧ Grew w w' := by
  have HT := Lib.hid h
  have HU := Lib.hid h2
  have HS := Lib.hid hs
  have HS2 := Lib.hid hs2
  have hlen := hs.len
  have hlen2 := hs2.len
  have hll : T.labels.length ≤ 1000 := hlen
  clear h h2 hs hs2
  by_cases hl : T.labels.length = U.labels.length
  rotate_left
  · have HE := Lib.hid (labs_len hl)
    have hb : ((T.labels.length : Int) != (U.labels.length : Int)) = true := by rw [bne_iff_ne]; omega
    clear hl
    go_enter Try.func61, Try.ntmps61
    go_wp2_with fail
    go_ret
    exact ⟨ret_bool (by rw [HE.out]), Grew.refl _⟩
  have hb : ((T.labels.length : Int) != (U.labels.length : Int)) = false := by rw [bne_eq_false_iff_eq]; omega
  have HL := Lib.hid hl
  clear hl
  go_enter Try.func61, Try.ntmps61
  go_wp2_with fail
  go_loopg [17] T.labels.length (fun gk i wr => ∃ k : Nat, k ≤ T.labels.length ∧ gk = T.labels.length - k ∧ i = .int .i64 k ∧ (∀ j (h1 : j < T.labels.length) (h2 : j < U.labels.length), j < k → eqL T.labels[j] U.labels[j] = true) ∧ Grew w wr)
  case atStart => exact ⟨0, by omega, by omega, rfl, fun j _ _ h => by omega, Grew.refl _⟩
  case round =>
    obtain ⟨k, hk, hgk, rfl, hall, hg⟩ := hrel
    have HGK := Lib.hid hgk
    have HA := Lib.hid hall
    have HG := Lib.hid hg
    clear hgk hall
    by_cases hlt : k < T.labels.length
    · have hlu : k < U.labels.length := by rw [← HL.out]; exact hlt
      obtain ⟨b, off, B, d, l, rfl, hbl, hxk, hv, hla, c0, c1, c2', c3, c4⟩ := (HT.out.hold hg).at_ hlt
      obtain ⟨b2, off2, B2, d2, m, rfl, hbl2, hxk2, hv2, hla2, m0, m1, m2, m3, m4⟩ := (HU.out.hold hg).at_ hlu
      have hle := HS.out.ext T.labels[k] (List.getElem_mem hlt)
      have hle2 := HS2.out.ext U.labels[k] (List.getElem_mem hlu)
      rw [hv] at hle
      rw [hv2] at hle2
      have hgl : Grew wr ((wr.alloc (.cells #[.int .i64 l.id, .int .i64 l.unit, .string l.name, .string l.note, .slice B l.ext.length d] 24)).alloc (.cells #[.int .i64 m.id, .int .i64 m.unit, .string m.name, .string m.note, .slice B2 m.ext.length d2] 24)) := ((Grew.refl wr).alloc _).alloc _
      have HC := Lib.hid (lequal_any B B2 d d2 l m _ (hla.hold hgl) (hla2.hold hgl) (by omega) (by omega))
      have HV := Lib.hid hv
      have HV2 := Lib.hid hv2
      have HGL := Lib.hid hgl
      clear hv hv2 hxk hxk2 hla hla2 hg hgl
      go_wp2_with fail
      refine HC.out.mono ?_
      rintro e w3 ⟨rfl, g3⟩
      cases he : eqL l m with
      | false =>
        have HF := Lib.hid (labs_ne k hlt hlu (by rw [HV.out, HV2.out]; exact he))
        clear he
        go_wp2_with fail
        go_ret
        exact ⟨ret_bool (by rw [HF.out]), HG.out.trans (HGL.out.trans g3)⟩
      | true =>
        have HN := Lib.hid (show ∀ j (h1 : j < T.labels.length) (h2 : j < U.labels.length), j < k + 1 → eqL T.labels[j] U.labels[j] = true from fun j h1 h2 hjk => by
          by_cases hjk' : j = k
          · subst hjk'; rw [HV.out, HV2.out]; exact he
          · exact HA.out j h1 h2 (by omega))
        clear he
        go_wp2_with fail
        go_roundg (T.labels.length - (k + 1))
        case measure => rw [HGK.out]; omega
        case rel => exact ⟨k + 1, by omega, by omega, by go_num, HN.out, HG.out.trans (HGL.out.trans g3)⟩
    · have HF := Lib.hid (labs_eq HL.out (fun j h1 h2 => HA.out j h1 h2 (by omega)))
      go_wp2_with fail
      go_ret
      exact ⟨ret_bool (by rw [HF.out]), HG.out⟩
set_option maxRecDepth 100000 in
set_option maxHeartbeats 4000000 in
theorem same_tab (h : TabAt w A c xs T) (hs : SmallT T) (h2 : TabAt w A2 c2 ys U) (hs2 : SmallT U) (r : Bool) (hr : sameT T U = r) :
    Calls Try.prog 29 #[.agg #[.string T.name, .int .i64 T.tracks, .slice A T.labels.length c], .agg #[.string U.name, .int .i64 U.tracks, .slice A2 U.labels.length c2]] w fun e w' => e = .returned (.bool r) ∧ Grew w w' := by
  subst hr
  have hg0 := ((Grew.refl w).alloc (.cells #[.string T.name, .int .i64 T.tracks, .slice A T.labels.length c] 34)).alloc (.cells #[.string U.name, .int .i64 U.tracks, .slice A2 U.labels.length c2] 34)
  have HC := Lib.hid (equalF_any A A2 c c2 xs ys T U _ (h.hold hg0) hs (h2.hold hg0) hs2)
  have HE := Lib.hid (show sameT T U = ((T.name.toList == U.name.toList) && ((T.tracks == U.tracks) && decide (T.labels = U.labels))) from rfl)
  have HG := Lib.hid hg0
  clear h h2 hs hs2 hg0
  cases b1 : (T.name.toList == U.name.toList) with
  | false =>
    have HB := Lib.hid b1
    go_enter Try.func29, Try.ntmps29
    go_wp2_with fail
    go_ret
    exact ⟨ret_bool (by rw [HE.out, HB.out]; rfl), HG.out⟩
  | true =>
    have HB := Lib.hid b1
    cases b2 : (T.tracks == U.tracks) with
    | false =>
      have HB2 := Lib.hid b2
      go_enter Try.func29, Try.ntmps29
      go_wp2_with fail
      go_ret
      exact ⟨ret_bool (by rw [HE.out, HB.out, HB2.out]; rfl), HG.out⟩
    | true =>
      have HB2 := Lib.hid b2
      go_enter Try.func29, Try.ntmps29
      go_wp2_with fail
      refine HC.out.mono ?_
      rintro e w1 ⟨rfl, g1⟩
      go_wp2_with fail
      go_ret
      exact ⟨ret_bool (by rw [HE.out, HB.out, HB2.out]; simp), HG.out.trans g1⟩
end
end Go.Proofs.Ytnlaogneceanoaa
namespace Go.Proofs.Ytnlaogneceanoaa
set_option linter.unusedVariables false
set_option linter.unusedSimpArgs false
set_option linter.unusedSectionVars false
open Go.RowKit
attribute [local go_sem ↓] Go.wp_at_zero Go.wp_at_succ
theorem same_self (T : Tab) : sameT T T = true := by
  unfold sameT
  rw [decide_eq_true rfl]
  simp
theorem sec_nil (T : Tab) (h : validT T = false) : (secT T).length = 0 := by unfold secT; rw [if_neg (by rw [h]; simp)]; rfl
theorem sec_of (T : Tab) (h : validT T = true) : SecOf (secT T) T := ⟨h, rfl⟩
theorem sec_pos (T : Tab) (h : validT T = true) : (secT T).length ≠ 0 := by have := (sec_facts T h _ rfl).1; omega
theorem ld_back (T V : Tab) (er : Int) (h : validT T = true) (hl : LdS (secT T) V er) : V = T ∧ er = 0 := hl.unique (.inl ⟨sec_of T h, rfl⟩)
section
variable (A A2 : Option Addr) (c c2 : Nat) (T U : Tab) (w : World)
set_option maxRecDepth 100000 in
set_option maxHeartbeats 16000000 in
theorem contentsReturns_any (hT : ∃ xs, TabAt w A c xs T) (hU : ∃ ys, TabAt w A2 c2 ys U) :
    Calls Try.prog 6 #[.agg #[.string T.name, .int .i64 T.tracks, .slice A T.labels.length c], .agg #[.string U.name, .int .i64 U.tracks, .slice A2 U.labels.length c2]] w fun e w' => e = .returned (.bool true) ∧ Grew w w' := by
  obtain ⟨xs, h⟩ := hT
  obtain ⟨ys, hu⟩ := hU
  have hg0 := ((Grew.refl w).alloc (.cells #[.string T.name, .int .i64 T.tracks, .slice A T.labels.length c] 34)).alloc (.cells #[.string U.name, .int .i64 U.tracks, .slice A2 U.labels.length c2] 34)
  have HB0 := Lib.hid ((Blk.new w 34 #[.string T.name, .int .i64 T.tracks, .slice A T.labels.length c] rfl).alloc (.cells #[.string U.name, .int .i64 U.tracks, .slice A2 U.labels.length c2] 34))
  have HC0 := Lib.hid (Blk.new (w.alloc (.cells #[.string T.name, .int .i64 T.tracks, .slice A T.labels.length c] 34)) 34 #[.string U.name, .int .i64 U.tracks, .slice A2 U.labels.length c2] (n := w.heap.size + 1) (by simp))
  have HTB := Lib.hid h
  have HUB := Lib.hid hu
  have HFT := Lib.hid (fun w1 (hg : Grew w w1) => fewT_any A c xs T w1 (h.hold hg))
  have HFU := Lib.hid (fun w1 (hg : Grew w w1) => fewT_any A2 c2 ys U w1 (hu.hold hg))
  have HG0 := Lib.hid hg0
  clear h hu hg0
  cases hf : fewT T with
  | false =>
    have HF := Lib.hid hf
    clear hf
    go_enter Try.func6, Try.ntmps6
    go_wp2_with fail
    refine (awake_con _).mono ?_
    rintro e w1 ⟨rfl, g1⟩
    have HB1 := Lib.hid (HB0.out.grew g1)
    have HC1 := Lib.hid (HC0.out.grew g1)
    have HG1 := Lib.hid (HG0.out.trans g1)
    have x0 := HB1.out.cell 0
    have x1 := HB1.out.cell 1
    have x2 := HB1.out.cell 2
    have hbl := HB1.out.lt
    clear g1
    go_wp2_with fail
    refine (HFT.out _ HG1.out).mono ?_
    rintro e w2 ⟨rfl, g2⟩
    rw [HF.out]
    clear x0 x1 x2 hbl
    go_wp2_with fail
    refine (awake_con _).mono ?_
    rintro e w9 ⟨rfl, g9⟩
    go_wp2_with fail
    go_ret
    exact ⟨rfl, (HG1.out.trans g2).trans g9⟩
  | true =>
  obtain ⟨hsm, _⟩ := fewT_facts hf
  have HF := Lib.hid hf
  clear hf
  cases hf2 : fewT U with
  | false =>
    have HF2 := Lib.hid hf2
    clear hf2 hsm
    go_enter Try.func6, Try.ntmps6
    go_wp2_with fail
    refine (awake_con _).mono ?_
    rintro e w1 ⟨rfl, g1⟩
    have HB1 := Lib.hid (HB0.out.grew g1)
    have HC1 := Lib.hid (HC0.out.grew g1)
    have HG1 := Lib.hid (HG0.out.trans g1)
    have x0 := HB1.out.cell 0
    have x1 := HB1.out.cell 1
    have x2 := HB1.out.cell 2
    have hbl := HB1.out.lt
    clear g1
    go_wp2_with fail
    refine (HFT.out _ HG1.out).mono ?_
    rintro e w2 ⟨rfl, g2⟩
    rw [HF.out]
    clear x0 x1 x2 hbl
    have HB2 := Lib.hid (HB1.out.grew g2)
    have HC2 := Lib.hid (HC1.out.grew g2)
    have HG2 := Lib.hid (HG1.out.trans g2)
    have y0 := HC2.out.cell 0
    have y1 := HC2.out.cell 1
    have y2 := HC2.out.cell 2
    have hcl := HC2.out.lt
    clear g2
    go_wp2_with fail
    refine (HFU.out _ HG2.out).mono ?_
    rintro e w3 ⟨rfl, g3⟩
    rw [HF2.out]
    clear y0 y1 y2 hcl
    go_wp2_with fail
    refine (awake_con _).mono ?_
    rintro e w9 ⟨rfl, g9⟩
    go_wp2_with fail
    go_ret
    exact ⟨rfl, (HG2.out.trans g3).trans g9⟩
  | true =>
  obtain ⟨hsu, _⟩ := fewT_facts hf2
  have HF2 := Lib.hid hf2
  clear hf2
  have HVT := Lib.hid (fun w1 (hg : Grew w w1) => valid_tab A c xs T w1 (HTB.out.hold hg) hsm _ rfl)
  have HVU := Lib.hid (fun w1 (hg : Grew w w1) => valid_tab A2 c2 ys U w1 (HUB.out.hold hg) hsu _ rfl)
  have HSM := Lib.hid hsm
  have HSU := Lib.hid hsu
  clear hsm hsu
  cases hv : validT T with
  | false =>
    have HVV := Lib.hid hv
    clear hv
    go_enter Try.func6, Try.ntmps6
    go_wp2_with fail
    refine (awake_con _).mono ?_
    rintro e w1 ⟨rfl, g1⟩
    have HB1 := Lib.hid (HB0.out.grew g1)
    have HC1 := Lib.hid (HC0.out.grew g1)
    have HG1 := Lib.hid (HG0.out.trans g1)
    have x0 := HB1.out.cell 0
    have x1 := HB1.out.cell 1
    have x2 := HB1.out.cell 2
    have hbl := HB1.out.lt
    clear g1
    go_wp2_with fail
    refine (HFT.out _ HG1.out).mono ?_
    rintro e w2 ⟨rfl, g2⟩
    rw [HF.out]
    clear x0 x1 x2 hbl
    have HB2 := Lib.hid (HB1.out.grew g2)
    have HC2 := Lib.hid (HC1.out.grew g2)
    have HG2 := Lib.hid (HG1.out.trans g2)
    have y0 := HC2.out.cell 0
    have y1 := HC2.out.cell 1
    have y2 := HC2.out.cell 2
    have hcl := HC2.out.lt
    clear g2
    go_wp2_with fail
    refine (HFU.out _ HG2.out).mono ?_
    rintro e w3 ⟨rfl, g3⟩
    rw [HF2.out]
    clear y0 y1 y2 hcl
    have HB3 := Lib.hid (HB2.out.grew g3)
    have HC3 := Lib.hid (HC2.out.grew g3)
    have HG3 := Lib.hid (HG2.out.trans g3)
    clear g3
    have x0 := HB3.out.cell 0
    have x1 := HB3.out.cell 1
    have x2 := HB3.out.cell 2
    have hbl := HB3.out.lt
    go_wp2_with fail
    refine (HVT.out _ HG3.out).mono ?_
    rintro e w4 ⟨rfl, g4⟩
    rw [HVV.out]
    clear x0 x1 x2 hbl
    go_wp2_with fail
    refine (awake_con _).mono ?_
    rintro e w9 ⟨rfl, g9⟩
    go_wp2_with fail
    go_ret
    exact ⟨rfl, (HG3.out.trans g4).trans g9⟩
  | true =>
  have HVV := Lib.hid hv
  have HFA := Lib.hid (sec_facts T hv _ rfl)
  have HSP := Lib.hid (sec_pos T hv)
  have HSS := Lib.hid (sec_short T HSM.out.len)
  clear hv
  go_enter Try.func6, Try.ntmps6
  go_wp2_with fail
  refine (awake_con _).mono ?_
  rintro e w1 ⟨rfl, g1⟩
  have HB1 := Lib.hid (HB0.out.grew g1)
  have HC1 := Lib.hid (HC0.out.grew g1)
  have HG1 := Lib.hid (HG0.out.trans g1)
  have x0 := HB1.out.cell 0
  have x1 := HB1.out.cell 1
  have x2 := HB1.out.cell 2
  have hbl := HB1.out.lt
  clear g1
  go_wp2_with fail
  refine (HFT.out _ HG1.out).mono ?_
  rintro e w2 ⟨rfl, g2⟩
  rw [HF.out]
  clear x0 x1 x2 hbl
  have HB2 := Lib.hid (HB1.out.grew g2)
  have HC2 := Lib.hid (HC1.out.grew g2)
  have HG2 := Lib.hid (HG1.out.trans g2)
  have y0 := HC2.out.cell 0
  have y1 := HC2.out.cell 1
  have y2 := HC2.out.cell 2
  have hcl := HC2.out.lt
  clear g2
  go_wp2_with fail
  refine (HFU.out _ HG2.out).mono ?_
  rintro e w3 ⟨rfl, g3⟩
  rw [HF2.out]
  clear y0 y1 y2 hcl
  have HB3 := Lib.hid (HB2.out.grew g3)
  have HC3 := Lib.hid (HC2.out.grew g3)
  have HG3 := Lib.hid (HG2.out.trans g3)
  clear g3
  have x0 := HB3.out.cell 0
  have x1 := HB3.out.cell 1
  have x2 := HB3.out.cell 2
  have hbl := HB3.out.lt
  go_wp2_with fail
  refine (HVT.out _ HG3.out).mono ?_
  rintro e w4 ⟨rfl, g4⟩
  rw [HVV.out]
  clear x0 x1 x2 hbl
  have HB4 := Lib.hid (HB3.out.grew g4)
  have HC4 := Lib.hid (HC3.out.grew g4)
  have HG4 := Lib.hid (HG3.out.trans g4)
  clear g4
  have x0 := HB4.out.cell 0
  have x1 := HB4.out.cell 1
  have x2 := HB4.out.cell 2
  have hxl := HB4.out.lt
  go_wp2_with fail
  refine (sectors_tab A c xs T _ (HTB.out.hold HG4.out) HSM.out).mono ?_
  rintro e w5 ⟨v5, rfl, ho5, g5⟩
  have HB5 := Lib.hid (HB4.out.grew g5)
  have HC5 := Lib.hid (HC4.out.grew g5)
  have HG5 := Lib.hid (HG4.out.trans g5)
  obtain ⟨gs, cs, hv5, hgs0, hgs1⟩ : ∃ gs cs, v5 = .slice (some ⟨gs, 0, none⟩) (secT T).length cs ∧ w4.heap.size ≤ gs ∧ gs < w5.heap.size := by
    rcases ho5.form with ⟨_, h0⟩ | ⟨g, cap, hv, h1, h2, _⟩
    · exact absurd (by have := congrArg List.length h0; simpa using this) HSP.out
    · exact ⟨g, cap, by rw [hv, List.length_map], h1, h2⟩
  subst hv5
  have HO5 := Lib.hid ho5
  clear x0 x1 x2 hxl ho5 g5
  go_wp2_with fail
  refine (load_tab (some ⟨gs, 0, none⟩) cs (secT T) _ HO5.out.listA (by have := HSS.out; omega) (fun x hx => by rw [HFA.out.2.1 x hx]; decide)).mono ?_
  rintro e w6 ⟨A6, c6, xs6, V, ev, rfl, hld, hsv, ht6, g6⟩
  obtain ⟨e1, e2⟩ := ld_back T V ev HVV.out hld
  subst e2
  have e1 := e1.symm
  subst e1
  have gal : Grew w6 (w6.alloc (.cells #[.string T.name, .int .i64 T.tracks, .slice A6 T.labels.length c6] 34)) := (Grew.refl w6).alloc _
  have HT6 := Lib.hid (ht6.hold gal)
  have HN6 := Lib.hid (Blk.new w6 34 #[.string T.name, .int .i64 T.tracks, .slice A6 T.labels.length c6] rfl)
  have gg := g6.trans gal
  have HB6 := Lib.hid (HB5.out.grew gg)
  have HC6 := Lib.hid (HC5.out.grew gg)
  have HG6 := Lib.hid (HG5.out.trans gg)
  have HO6 := Lib.hid (HO5.out.grew gg)
  have hgz6 := gg.size
  clear gal ht6 g6 gg hld hsv
  have x0 := HB6.out.cell 0
  have x1 := HB6.out.cell 1
  have x2 := HB6.out.cell 2
  have hxl := HB6.out.lt
  have n0 := HN6.out.cell 0
  have n1 := HN6.out.cell 1
  have n2 := HN6.out.cell 2
  have hnl := HN6.out.lt
  go_wp2_with fail
  refine (same_tab A6 A c6 c xs6 xs T T _ HT6.out HSM.out (HTB.out.hold HG6.out) HSM.out true (same_self T)).mono ?_
  rintro e w7 ⟨rfl, g7⟩
  have HB7 := Lib.hid (HB6.out.grew g7)
  have HC7 := Lib.hid (HC6.out.grew g7)
  have HG7 := Lib.hid (HG6.out.trans g7)
  have HO7 := Lib.hid (HO6.out.grew g7)
  have hgz7 := g7.size
  clear x0 x1 x2 hxl n0 n1 n2 hnl g7
  have y0 := HC7.out.cell 0
  have y1 := HC7.out.cell 1
  have y2 := HC7.out.cell 2
  have hyl := HC7.out.lt
  go_wp2_with fail
  refine (HVU.out _ HG7.out).mono ?_
  rintro e w8 ⟨rfl, g8⟩
  have HB8 := Lib.hid (HB7.out.grew g8)
  have HC8 := Lib.hid (HC7.out.grew g8)
  have HG8 := Lib.hid (HG7.out.trans g8)
  have HO8 := Lib.hid (HO7.out.grew g8)
  have hgz8 := g8.size
  clear y0 y1 y2 hyl g8
  have x0 := HB8.out.cell 0
  have x1 := HB8.out.cell 1
  have x2 := HB8.out.cell 2
  have hxl := HB8.out.lt
  have y0 := HC8.out.cell 0
  have y1 := HC8.out.cell 1
  have y2 := HC8.out.cell 2
  have hyl := HC8.out.lt
  have CC := changes_tab A A2 c c2 xs ys T U w8 (HTB.out.hold HG8.out) HSM.out (HUB.out.hold HG8.out) HSU.out
  cases hvu : validT U with
  | false =>
    have HD := Lib.hid (diffT_nil0 T U (.inr (sec_nil U hvu)))
    clear hvu
    go_wp2_with fail
    refine CC.mono ?_
    rintro e w9 ⟨v9, rfl, ho9, g9⟩
    rw [HD.out] at ho9
    obtain ⟨A9, c9, rfl, -, -, -⟩ := ho9.listAt
    go_wp2_with fail
    go_ret
    exact ⟨rfl, HG8.out.trans g9⟩
  | true =>
  by_cases ht : U.tracks = T.tracks
  rotate_left
  · have hne : (U.tracks != T.tracks) = true := by rw [bne_iff_ne]; exact ht
    have HD := Lib.hid (diffT_nil1 T U (fun e => ht e.symm))
    clear hvu ht
    go_wp2_with fail
    refine CC.mono ?_
    rintro e w9 ⟨v9, rfl, ho9, g9⟩
    rw [HD.out] at ho9
    obtain ⟨A9, c9, rfl, -, -, -⟩ := ho9.listAt
    go_wp2_with fail
    go_ret
    exact ⟨rfl, HG8.out.trans g9⟩
  have hne : (U.tracks != T.tracks) = false := by rw [bne_eq_false_iff_eq]; exact ht
  have hsl := sec_same T U HSP.out (sec_pos U hvu) ht.symm
  have HVV2 := Lib.hid hvu
  have HD := Lib.hid (show diffT T U = (idxD (secT T) (secT U)).map fun (i : Nat) => ((i : Int), (secT U).getD i ⟨#[]⟩) from by
    rw [diffT_full T U HSP.out (sec_pos U hvu) ht.symm, ← hsl, diffP_idx])
  have HPA := Lib.hid (patch_at (secT T) (secT U) hsl)
  have HPE := Lib.hid (patch_all (secT T) (secT U) hsl)
  have HFU2 := Lib.hid (sec_facts U hvu _ rfl)
  have HSL := Lib.hid hsl
  have hIl : (idxD (secT T) (secT U)).length ≤ (secT T).length := by
    unfold idxD
    have := List.length_filter_le (fun i => decide ((secT T).getD i ⟨#[]⟩ ≠ (secT U).getD i ⟨#[]⟩)) (List.range (secT T).length)
    rwa [List.length_range] at this
  have hss := HSS.out
  clear hvu ht hsl
  go_wp2_with fail
  refine CC.mono ?_
  rintro e w9 ⟨v9, rfl, ho9, g9⟩
  rw [HD.out] at ho9
  obtain ⟨A9, c9, hv9, -, -, -⟩ := ho9.listAt
  rw [List.length_map, List.length_map] at hv9
  subst hv9
  have HB9 := Lib.hid (HB8.out.grew g9)
  have HC9 := Lib.hid (HC8.out.grew g9)
  have HG9 := Lib.hid (HG8.out.trans g9)
  have HO9 := Lib.hid (HO8.out.grew g9)
  have HD9 := Lib.hid ho9
  have hgz9 := g9.size
  have hgs8 : gs < w8.heap.size := by omega
  clear x0 x1 x2 hxl y0 y1 y2 hyl ho9 g9 CC
  generalize hI : idxD (secT T) (secT U) = I at *
  have hw4 : w.heap.size ≤ w4.heap.size := HG4.out.size
  have hsz0 : w.heap.size + 1 < w4.heap.size := HC4.out.lt
  go_wp2_with fail
  go_loopg [64] I.length (fun gk i wr => ∃ k : Nat, k ≤ I.length ∧ gk = I.length - k ∧ i = .int .i64 k ∧ OwnL wr w4.heap.size 9 1 (.slice (some ⟨gs, 0, none⟩) (secT T).length cs) ((patchI (secT U) (I.take k) (secT T)).map strC) ∧ Turned (fun q => q = gs) w9 wr)
  case atStart => exact ⟨0, by omega, by omega, rfl, HO9.out, Turned.refl _ _⟩
  case round =>
    obtain ⟨k, hk, hgk, rfl, hown, htu⟩ := hrel
    have HGK := Lib.hid hgk
    have HTU := Lib.hid htu
    have HOW := Lib.hid hown
    have HGR := Lib.hid (HG9.out.turn htu (fun q hq => by omega))
    have htz := htu.size
    clear hgk hown htu
    by_cases hlt : k < I.length
    · obtain ⟨i, x, y, hi1, hi2, hxy, hx, hy, hset⟩ := HPA.out k hlt
      have hD := HD9.out.kept HTU.out (fun q hq hqg => by have := (HD9.out.own_ge hq).1; omega)
      obtain ⟨b1, o1, e1, hb1, hc1⟩ := hD.listA (by rw [List.length_map, List.length_map]; omega)
      subst e1
      have hrow : ((I.map fun (i : Nat) => ((i : Int), (secT U).getD i ⟨#[]⟩)).map wrC)[k]? = some [.int .i64 (i : Int), .string y] := by
        rw [List.getElem?_map, List.getElem?_map, List.getElem?_eq_getElem hlt, hi1, ← hy]; rfl
      have d0 := hc1 k _ hrow 0 _ rfl
      have d1 := hc1 k _ hrow 1 _ rfl
      rw [Nat.add_zero] at d0
      have hrs : ((patchI (secT U) (I.take k) (secT T)).map strC)[i]? = some (strC x) := by rw [List.getElem?_map, hx]; rfl
      have s0 : wr.cell? ⟨gs, i, none⟩ = some (.string x) := by have := HOW.out.cell hrs (i := 0) rfl; simpa using this
      have sf := HOW.out.frozen i
      have HQ := Lib.hid (show (x.toList == y.toList) = false from beq_eq_false_iff_ne.2 (fun e => hxy (bytes_eq (by simpa [ByteArray.toList_eq] using e))))
      have HSET := Lib.hid hset
      have gal : Grew wr (wr.alloc (.cells #[.int .i64 (i : Int), .string y] 67)) := (Grew.refl wr).alloc _
      have hnb := Blk.new wr 67 #[.int .i64 (i : Int), .string y] rfl
      have hgsr : gs < wr.heap.size := by omega
      have hq1 : (x.toList == y.toList) = false := HQ.out
      have hq2 : ¬ x.toList = y.toList := fun e => by rw [e] at hq1; simp at hq1
      have hq3 : decide (x.toList = y.toList) = false := decide_eq_false hq2
      have hz1 : decide ((i : Int) < 0) = false := decide_eq_false (by omega)
      have hz2 : decide (((secT T).length : Int) ≤ (i : Int)) = false := decide_eq_false (by omega)
      have hz3 : decide ((secT T).length ≤ i) = false := decide_eq_false (by omega)
      have hS : (fun w9 : World => w9.cell? ⟨wr.heap.size, 0, none⟩ = some (.int .i64 (i : Int)) ∧ w9.cell? ⟨wr.heap.size, 1, none⟩ = some (.string y) ∧ w9.cell? ⟨gs, i, none⟩ = some (.string x)) (wr.alloc (.cells #[.int .i64 (i : Int), .string y] 67)).drew := ⟨hnb.drew.cell 0, hnb.drew.cell 1, by have := gal.cellEq gs i hgsr; exact this.trans s0⟩
      have hset2 := HOW.out.set_ hrs (i := 0) (o := i) (by decide) (by omega) (.string y)
      have HSET2 := Lib.hid (show OwnL (((wr.setCell ⟨gs, i, none⟩ (.string y)).alloc (.cells #[.int .i64 (i : Int), .string y] 67)).drew) w4.heap.size 9 1 (.slice (some ⟨gs, 0, none⟩) (secT T).length cs) ((patchI (secT U) (I.take (k + 1)) (secT T)).map strC) from by rw [HSET.out, List.map_set]; exact (hset2.alloc _).drew)
      have HTU2 := Lib.hid (((HTU.out.setCell (p := ⟨gs, i, none⟩) (fun _ => rfl) (.string y)).alloc (.cells #[.int .i64 (i : Int), .string y] 67)).drew)
      clear hrow hD hc1 hx hset hxy hi1 hset2 gal hnb hrs
      go_wp2_with fail
      refine wp_region_R [] (fun w9 : World => w9.cell? ⟨wr.heap.size, 0, none⟩ = some (.int .i64 (i : Int)) ∧ w9.cell? ⟨wr.heap.size, 1, none⟩ = some (.string y) ∧ w9.cell? ⟨gs, i, none⟩ = some (.string x)) (by kernel_rfl) ?_
      refine wpAnyR_takeQ (i := 0) (v := ?_) (some 68) rfl rfl (by kernel_rfl) (by kernel_rfl) (by kernel_rfl) (by kernel_rfl) (fun _ _ _ h => h) (Or.inl ⟨by rfl, ?_⟩) ?_
      rotate_left
      focus (intro wS hSw; (try dsimp only at hSw); go_simp; (try with_reducible rfl); (try (first | (rw [if_pos (by omega)]; (try go_simp); (try with_reducible rfl)) | (rw [if_neg (by omega)]; (try go_simp); (try with_reducible rfl)))))
      try simp only [Act.put, zA, zB, zC]
      refine wpAnyR_take (i := 1) (v := ?_) [2, 3, 4, 5, 6, 7, 8, 9, 10, 11, 12, 13, 14, 15, 16, 17, 18, 19] (some 69) rfl rfl (by kernel_rfl) (by kernel_rfl) (by kernel_rfl) (by kernel_rfl) (by kernel_rfl) (by kernel_rfl) (by kernel_rfl) (fun _ _ _ h => h) (Or.inl ⟨by rfl, ?_⟩) hS ?_
      rotate_left
      focus (intro wS hSw; (try dsimp only at hSw); go_simp; (try with_reducible rfl); (try (first | (rw [if_pos (by omega)]; (try go_simp); (try with_reducible rfl)) | (rw [if_neg (by omega)]; (try go_simp); (try with_reducible rfl)))))
      try simp only [Act.put, zA, zB, zC]
      refine wpAnyR_takeQ (i := 2) (v := ?_) (some 70) rfl rfl (by kernel_rfl) (by kernel_rfl) (by kernel_rfl) (by kernel_rfl) (fun _ _ _ h => h) (Or.inl ⟨by rfl, ?_⟩) ?_
      rotate_left
      focus (intro wS hSw; (try dsimp only at hSw); go_simp; (try with_reducible rfl); (try (first | (rw [if_pos (by omega)]; (try go_simp); (try with_reducible rfl)) | (rw [if_neg (by omega)]; (try go_simp); (try with_reducible rfl)))))
      try simp only [Act.put, zA, zB, zC]
      refine wpAnyR_takeQ (i := 3) (v := ?_) (some 71) rfl rfl (by kernel_rfl) (by kernel_rfl) (by kernel_rfl) (by kernel_rfl) (fun _ _ _ h => h) (Or.inl ⟨by rfl, ?_⟩) ?_
      rotate_left
      focus (intro wS hSw; (try dsimp only at hSw); go_simp; (try with_reducible rfl); (try (first | (rw [if_pos (by omega)]; (try go_simp); (try with_reducible rfl)) | (rw [if_neg (by omega)]; (try go_simp); (try with_reducible rfl)))))
      try simp only [Act.put, zA, zB, zC]
      refine wpAnyR_takeQ (i := 4) (v := ?_) (some 72) rfl rfl (by kernel_rfl) (by kernel_rfl) (by kernel_rfl) (by kernel_rfl) (fun _ _ _ h => h) (Or.inl ⟨by rfl, ?_⟩) ?_
      rotate_left
      focus (intro wS hSw; (try dsimp only at hSw); go_simp; (try with_reducible rfl); (try (first | (rw [if_pos (by omega)]; (try go_simp); (try with_reducible rfl)) | (rw [if_neg (by omega)]; (try go_simp); (try with_reducible rfl)))))
      try simp only [Act.put, zA, zB, zC]
      refine wpAnyR_take (i := 5) (v := ?_) [8, 9, 10, 11, 12, 13, 14, 15, 16, 17, 18, 19] (some 73) rfl rfl (by kernel_rfl) (by kernel_rfl) (by kernel_rfl) (by kernel_rfl) (by kernel_rfl) (by kernel_rfl) (by kernel_rfl) (fun _ _ _ h => h) (Or.inl ⟨by rfl, ?_⟩) hS ?_
      rotate_left
      focus (intro wS hSw; (try dsimp only at hSw); go_simp; (try with_reducible rfl); (try (first | (rw [if_pos (by omega)]; (try go_simp); (try with_reducible rfl)) | (rw [if_neg (by omega)]; (try go_simp); (try with_reducible rfl)))))
      try simp only [Act.put, zA, zB, zC]
      refine wpAnyR_takeQ (i := 6) (v := ?_) (some 74) rfl rfl (by kernel_rfl) (by kernel_rfl) (by kernel_rfl) (by kernel_rfl) (fun _ _ _ h => h) (Or.inl ⟨by rfl, ?_⟩) ?_
      rotate_left
      focus (intro wS hSw; (try dsimp only at hSw); go_simp; (try with_reducible rfl); (try (first | (rw [if_pos (by omega)]; (try go_simp); (try with_reducible rfl)) | (rw [if_neg (by omega)]; (try go_simp); (try with_reducible rfl)))))
      try simp only [Act.put, zA, zB, zC]
      refine wpAnyR_take (i := 7) (v := ?_) [8, 9, 10, 11, 12, 13, 14, 15, 16, 17, 18, 19] (some 75) rfl rfl (by kernel_rfl) (by kernel_rfl) (by kernel_rfl) (by kernel_rfl) (by kernel_rfl) (by kernel_rfl) (by kernel_rfl) (fun _ _ _ h => h) (Or.inl ⟨by rfl, ?_⟩) hS ?_
      rotate_left
      focus (intro wS hSw; (try dsimp only at hSw); go_simp; (try with_reducible rfl); (try (first | (rw [if_pos (by omega)]; (try go_simp); (try with_reducible rfl)) | (rw [if_neg (by omega)]; (try go_simp); (try with_reducible rfl)))))
      try simp only [Act.put, zA, zB, zC]
      refine wpAnyR_takeQ (i := 8) (v := ?_) (some 76) rfl rfl (by kernel_rfl) (by kernel_rfl) (by kernel_rfl) (by kernel_rfl) (fun _ _ _ h => h) (Or.inl ⟨by rfl, ?_⟩) ?_
      rotate_left
      focus (intro wS hSw; (try dsimp only at hSw); go_simp; (try with_reducible rfl); (try (first | (rw [if_pos (by omega)]; (try go_simp); (try with_reducible rfl)) | (rw [if_neg (by omega)]; (try go_simp); (try with_reducible rfl)))))
      try simp only [Act.put, zA, zB, zC]
      refine wpAnyR_takeQ (i := 9) (v := ?_) (some 77) rfl rfl (by kernel_rfl) (by kernel_rfl) (by kernel_rfl) (by kernel_rfl) (fun _ _ _ h => h) (Or.inl ⟨by rfl, ?_⟩) ?_
      rotate_left
      focus (intro wS hSw; (try dsimp only at hSw); go_simp; (try with_reducible rfl); (try (first | (rw [if_pos (by omega)]; (try go_simp); (try with_reducible rfl)) | (rw [if_neg (by omega)]; (try go_simp); (try with_reducible rfl)))))
      try simp only [Act.put, zA, zB, zC]
      refine wpAnyR_takeQ (i := 10) (v := ?_) (some 78) rfl rfl (by kernel_rfl) (by kernel_rfl) (by kernel_rfl) (by kernel_rfl) (fun _ _ _ h => h) (Or.inl ⟨by rfl, ?_⟩) ?_
      rotate_left
      focus (intro wS hSw; (try dsimp only at hSw); go_simp; (try with_reducible rfl); (try (first | (rw [if_pos (by omega)]; (try go_simp); (try with_reducible rfl)) | (rw [if_neg (by omega)]; (try go_simp); (try with_reducible rfl)))))
      try simp only [Act.put, zA, zB, zC]
      refine wpAnyR_takeQ (i := 11) (v := ?_) (some 79) rfl rfl (by kernel_rfl) (by kernel_rfl) (by kernel_rfl) (by kernel_rfl) (fun _ _ _ h => h) (Or.inl ⟨by rfl, ?_⟩) ?_
      rotate_left
      focus (intro wS hSw; (try dsimp only at hSw); go_simp; (try with_reducible rfl); (try (first | (rw [if_pos (by omega)]; (try go_simp); (try with_reducible rfl)) | (rw [if_neg (by omega)]; (try go_simp); (try with_reducible rfl)))))
      try simp only [Act.put, zA, zB, zC]
      refine wpAnyR_takeQ (i := 12) (v := ?_) (some 80) rfl rfl (by kernel_rfl) (by kernel_rfl) (by kernel_rfl) (by kernel_rfl) (fun _ _ _ h => h) (Or.inl ⟨by rfl, ?_⟩) ?_
      rotate_left
      focus (intro wS hSw; (try dsimp only at hSw); go_simp; (try with_reducible rfl); (try (first | (rw [if_pos (by omega)]; (try go_simp); (try with_reducible rfl)) | (rw [if_neg (by omega)]; (try go_simp); (try with_reducible rfl)))))
      try simp only [Act.put, zA, zB, zC]
      refine wpAnyR_take (i := 13) (v := ?_) [14, 15, 18, 19] (some 81) rfl rfl (by kernel_rfl) (by kernel_rfl) (by kernel_rfl) (by kernel_rfl) (by kernel_rfl) (by kernel_rfl) (by kernel_rfl) (fun _ _ _ h => h) (Or.inl ⟨by rfl, ?_⟩) hS ?_
      rotate_left
      focus (intro wS hSw; (try dsimp only at hSw); go_simp; (try with_reducible rfl); (try (first | (rw [if_pos (by omega)]; (try go_simp); (try with_reducible rfl)) | (rw [if_neg (by omega)]; (try go_simp); (try with_reducible rfl)))))
      try simp only [Act.put, zA, zB, zC]
      refine wpAnyR_takeQ (i := 14) (v := ?_) (some 82) rfl rfl (by kernel_rfl) (by kernel_rfl) (by kernel_rfl) (by kernel_rfl) (fun _ _ _ h => h) (Or.inl ⟨by rfl, ?_⟩) ?_
      rotate_left
      focus (intro wS hSw; (try dsimp only at hSw); go_simp; (try with_reducible rfl); (try (first | (rw [if_pos (by omega)]; (try go_simp); (try with_reducible rfl)) | (rw [if_neg (by omega)]; (try go_simp); (try with_reducible rfl)))))
      try simp only [Act.put, zA, zB, zC]
      refine wpAnyR_take (i := 15) (v := ?_) [18, 19] (some 83) rfl rfl (by kernel_rfl) (by kernel_rfl) (by kernel_rfl) (by kernel_rfl) (by kernel_rfl) (by kernel_rfl) (by kernel_rfl) (fun _ _ _ h => h) (Or.inl ⟨by rfl, ?_⟩) hS ?_
      rotate_left
      focus (intro wS hSw; (try dsimp only at hSw); go_simp; (try with_reducible rfl); (try (first | (rw [if_pos (by omega)]; (try go_simp); (try with_reducible rfl)) | (rw [if_neg (by omega)]; (try go_simp); (try with_reducible rfl)))))
      try simp only [Act.put, zA, zB, zC]
      refine wpAnyR_takeQ (i := 16) (v := ?_) (some 84) rfl rfl (by kernel_rfl) (by kernel_rfl) (by kernel_rfl) (by kernel_rfl) (fun _ _ _ h => h) (Or.inl ⟨by rfl, ?_⟩) ?_
      rotate_left
      focus (intro wS hSw; (try dsimp only at hSw); go_simp; (try with_reducible rfl); (try (first | (rw [if_pos (by omega)]; (try go_simp); (try with_reducible rfl)) | (rw [if_neg (by omega)]; (try go_simp); (try with_reducible rfl)))))
      try simp only [Act.put, zA, zB, zC]
      refine wpAnyR_take (i := 17) (v := ?_) [18, 19] (some 85) rfl rfl (by kernel_rfl) (by kernel_rfl) (by kernel_rfl) (by kernel_rfl) (by kernel_rfl) (by kernel_rfl) (by kernel_rfl) (fun _ _ _ h => h) (Or.inl ⟨by rfl, ?_⟩) hS ?_
      rotate_left
      focus (intro wS hSw; (try dsimp only at hSw); go_simp; (try with_reducible rfl); (try (first | (rw [if_pos (by omega)]; (try go_simp); (try with_reducible rfl)) | (rw [if_neg (by omega)]; (try go_simp); (try with_reducible rfl)))))
      try simp only [Act.put, zA, zB, zC]
      refine wpAnyR_takeQ (i := 18) (v := ?_) (some 86) rfl rfl (by kernel_rfl) (by kernel_rfl) (by kernel_rfl) (by kernel_rfl) (fun _ _ _ h => h) (Or.inl ⟨by rfl, ?_⟩) ?_
      rotate_left
      focus (intro wS hSw; (try dsimp only at hSw); go_simp; (try with_reducible rfl); (try (first | (rw [if_pos (by omega)]; (try go_simp); (try with_reducible rfl)) | (rw [if_neg (by omega)]; (try go_simp); (try with_reducible rfl)))))
      try simp only [Act.put, zA, zB, zC]
      refine wpAnyR_takeQ (i := 19) (v := ?_) (some 87) rfl rfl (by kernel_rfl) (by kernel_rfl) (by kernel_rfl) (by kernel_rfl) (fun _ _ _ h => h) (Or.inl ⟨by rfl, ?_⟩) ?_
      rotate_left
      focus (intro wS hSw; (try dsimp only at hSw); go_simp; (try with_reducible rfl); (try (first | (rw [if_pos (by omega)]; (try go_simp); (try with_reducible rfl)) | (rw [if_neg (by omega)]; (try go_simp); (try with_reducible rfl)))))
      try simp only [Act.put, zA, zB, zC]
      refine wpAnyR_done (by kernel_rfl) ?_ _
      clear hS hq1 hq2 hq3 hz1 hz2 hz3
      go_wp2_with fail
      go_roundg (I.length - (k + 1))
      case measure => rw [HGK.out]; omega
      case rel => exact ⟨k + 1, by omega, by omega, by go_num, HSET2.out, HTU2.out⟩
    · have hkI : k = I.length := by omega
      subst hkI
      have hown := HOW.out
      rw [List.take_length, HPE.out] at hown
      have C := load_tab (some ⟨gs, 0, none⟩) cs (secT U) wr (by rw [HSL.out] at hown; exact hown.listA) (by have := HSS.out; have := HSL.out; omega) (fun x hx => by rw [HFU2.out.2.1 x hx]; decide)
      rw [← HSL.out] at C
      clear hown hI
      go_wp2_with fail
      refine C.mono ?_
      rintro e w10 ⟨A10, c10, xs10, V, ev, rfl, hld, hsv, ht10, g10⟩
      obtain ⟨e1, e2⟩ := ld_back U V ev HVV2.out hld
      subst e2
      have e1 := e1.symm
      subst e1
      have gal : Grew w10 (w10.alloc (.cells #[.string U.name, .int .i64 U.tracks, .slice A10 U.labels.length c10] 34)) := (Grew.refl w10).alloc _
      have HT10 := Lib.hid (ht10.hold gal)
      have HN10 := Lib.hid (Blk.new w10 34 #[.string U.name, .int .i64 U.tracks, .slice A10 U.labels.length c10] rfl)
      have hb0w : w.heap.size + 1 < w9.heap.size := HC9.out.lt
      have hcr := HC9.out.turned HTU.out (fun e => by omega)
      have HC10 := Lib.hid ((hcr.grew g10).grew gal)
      have HG10 := Lib.hid ((HGR.out.trans g10).trans gal)
      clear C gal ht10 g10 hld hsv hcr
      have y0 := HC10.out.cell 0
      have y1 := HC10.out.cell 1
      have y2 := HC10.out.cell 2
      have hyl := HC10.out.lt
      have n0 := HN10.out.cell 0
      have n1 := HN10.out.cell 1
      have n2 := HN10.out.cell 2
      have hnl := HN10.out.lt
      go_wp2_with fail
      refine (same_tab A10 A2 c10 c2 xs10 ys U U _ HT10.out HSU.out (HUB.out.hold HG10.out) HSU.out true (same_self U)).mono ?_
      rintro e w11 ⟨rfl, g11⟩
      go_wp2_with fail
      go_ret
      exact ⟨rfl, HG10.out.trans g11⟩
end
end Go.Proofs.Ytnlaogneceanoaa
