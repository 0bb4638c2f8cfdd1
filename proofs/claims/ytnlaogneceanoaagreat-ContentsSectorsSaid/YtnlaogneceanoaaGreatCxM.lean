/- Chapter 8: ContentsSectors. -/
import Derived.Test.YtnlaogneceanoaaGreatCxB
import Derived.Test.YtnlaogneceanoaaGreatCxI
import Derived.Test.YtnlaogneceanoaaGreatCxJ
import Derived.Test.YtnlaogneceanoaaGreatCxK
import Derived.Test.YtnlaogneceanoaaGreatCxL
namespace Go.Proofs.YtnlaogneceanoaaGreat
set_option linter.unusedVariables false
set_option linter.unusedSimpArgs false
set_option linter.unusedSectionVars false
open Go.RowKit
attribute [local go_sem ↓] Go.wp_at_zero Go.wp_at_succ
theorem same_self (T : Tab) : sameT T T = true := by
  unfold sameT
  rw [decide_eq_true rfl]
  simp
theorem newT_small (s : ByteArray) (t : Int) : SmallT (newT s t).1 := by
  unfold newT
  split
  · refine ⟨?_, fun l hl => ?_⟩
    · have := (slots_nat t).2
      show (List.replicate _ labZ).length ≤ 1000
      rw [List.length_replicate]
      omega
    · rw [List.eq_of_mem_replicate hl]; decide
  · exact small_zero
theorem newT_nm (s : ByteArray) (t : Int) (N : Tab) (er : Int) (h : newT s t = (N, er)) (hs : s.size ≤ 9223372036854775807) (t0 : -9223372036854775808 ≤ t) (t1 : t ≤ 9223372036854775807) : N.name.size ≤ 9223372036854775807 ∧ -9223372036854775808 ≤ N.tracks ∧ N.tracks ≤ 9223372036854775807 := by
  unfold newT at h
  split at h
  · injection h with h1 _
    subst h1
    exact ⟨hs, t0, t1⟩
  · injection h with h1 _
    subst h1
    exact ⟨by decide, by decide, by decide⟩
theorem diffT_len (T U : Tab) (h : SmallT T) : (diffT T U).length ≤ 10000 := by
  unfold diffT
  split
  · exact Nat.le_trans (diffP_len _ _ _) (sec_short T h.len)
  · exact Nat.zero_le _
section
variable (A A2 A3 : Option Addr) (c c2 c3 : Nat) (T U : Tab) (ss : List ByteArray) (w : World)
set_option maxRecDepth 100000 in
set_option maxHeartbeats 16000000 in
theorem contentsSectors_any (hT : ∃ xs, TabAt w A c xs T) (hU : ∃ ys, TabAt w A2 c2 ys U) (hls : ss.length ≤ 9223372036854775807) (hSS : StrsAt w w.heap.size A3 ss) :
    Calls Tryz.prog 5 #[.agg #[.string T.name, .int .i64 T.tracks, .slice A T.labels.length c], .agg #[.string U.name, .int .i64 U.tracks, .slice A2 U.labels.length c2], .slice A3 ss.length c3] w fun e w' => e = .returned (.bool true) ∧ Grew w w' := by
  obtain ⟨xs, h⟩ := hT
  obtain ⟨ys, hu⟩ := hU
  have hg0 := ((Grew.refl w).alloc (.cells #[.string T.name, .int .i64 T.tracks, .slice A T.labels.length c] 24)).alloc (.cells #[.string U.name, .int .i64 U.tracks, .slice A2 U.labels.length c2] 24)
  have HB0 := Lib.hid ((Blk.new w 24 #[.string T.name, .int .i64 T.tracks, .slice A T.labels.length c] rfl).alloc (.cells #[.string U.name, .int .i64 U.tracks, .slice A2 U.labels.length c2] 24))
  have HC0 := Lib.hid (Blk.new (w.alloc (.cells #[.string T.name, .int .i64 T.tracks, .slice A T.labels.length c] 24)) 24 #[.string U.name, .int .i64 U.tracks, .slice A2 U.labels.length c2] (n := w.heap.size + 1) (by simp))
  have HTB := Lib.hid h
  have HUB := Lib.hid hu
  have HFT := Lib.hid (fun w1 (hg : Grew w w1) => fewT_any A c xs T w1 (h.hold hg))
  have HFU := Lib.hid (fun w1 (hg : Grew w w1) => fewT_any A2 c2 ys U w1 (hu.hold hg))
  have HLS := Lib.hid (fun w9 (g9 : Grew w w9) => (hSS.2.keep (Nat.le_refl _) g9).mono g9.size)
  have HSZ := Lib.hid hSS.1
  have HG0 := Lib.hid hg0
  clear h hu hg0 hSS
  cases hf : fewT T with
  | false =>
    have HF := Lib.hid hf
    clear hf
    go_enter Tryz.func5, Tryz.ntmps5
    go_wp2_with fail
    refine (awake_con _).mono ?_
    rintro e w1 ⟨rfl, g1⟩
    have HB1 := Lib.hid (HB0.out.grew g1)
    have HC1 := Lib.hid (HC0.out.grew g1)
    have HG1 := Lib.hid (HG0.out.trans g1)
    have x0 := HB1.out.cell 0
    have x1 := HB1.out.cell 1
    have x2 := HB1.out.cell 2
    have hbl := HB1.out.lt
    clear g1
    go_wp2_with fail
    refine (HFT.out _ HG1.out).mono ?_
    rintro e w2 ⟨rfl, g2⟩
    rw [HF.out]
    clear x0 x1 x2 hbl
    go_wp2_with fail
    refine (awake_con _).mono ?_
    rintro e w3 ⟨rfl, g3⟩
    go_wp2_with fail
    go_ret
    exact ⟨rfl, (HG1.out.trans g2).trans g3⟩
  | true =>
  obtain ⟨hsm, _⟩ := fewT_facts hf
  have HF := Lib.hid hf
  clear hf
  cases hf2 : fewT U with
  | false =>
    have HF2 := Lib.hid hf2
    clear hf2 hsm
    go_enter Tryz.func5, Tryz.ntmps5
    go_wp2_with fail
    refine (awake_con _).mono ?_
    rintro e w1 ⟨rfl, g1⟩
    have HB1 := Lib.hid (HB0.out.grew g1)
    have HC1 := Lib.hid (HC0.out.grew g1)
    have HG1 := Lib.hid (HG0.out.trans g1)
    have x0 := HB1.out.cell 0
    have x1 := HB1.out.cell 1
    have x2 := HB1.out.cell 2
    have hbl := HB1.out.lt
    clear g1
    go_wp2_with fail
    refine (HFT.out _ HG1.out).mono ?_
    rintro e w2 ⟨rfl, g2⟩
    rw [HF.out]
    clear x0 x1 x2 hbl
    have HB2 := Lib.hid (HB1.out.grew g2)
    have HC2 := Lib.hid (HC1.out.grew g2)
    have HG2 := Lib.hid (HG1.out.trans g2)
    have y0 := HC2.out.cell 0
    have y1 := HC2.out.cell 1
    have y2 := HC2.out.cell 2
    have hcl := HC2.out.lt
    clear g2
    go_wp2_with fail
    refine (HFU.out _ HG2.out).mono ?_
    rintro e w3 ⟨rfl, g3⟩
    rw [HF2.out]
    clear y0 y1 y2 hcl
    go_wp2_with fail
    refine (awake_con _).mono ?_
    rintro e w4 ⟨rfl, g4⟩
    go_wp2_with fail
    go_ret
    exact ⟨rfl, (HG2.out.trans g3).trans g4⟩
  | true =>
  obtain ⟨hsu, _⟩ := fewT_facts hf2
  have HF2 := Lib.hid hf2
  clear hf2
  by_cases h300 : ss.length ≤ 300
  rotate_left
  · clear hsm hsu
    go_enter Tryz.func5, Tryz.ntmps5
    go_wp2_with fail
    refine (awake_con _).mono ?_
    rintro e w1 ⟨rfl, g1⟩
    have HB1 := Lib.hid (HB0.out.grew g1)
    have HC1 := Lib.hid (HC0.out.grew g1)
    have HG1 := Lib.hid (HG0.out.trans g1)
    have x0 := HB1.out.cell 0
    have x1 := HB1.out.cell 1
    have x2 := HB1.out.cell 2
    have hbl := HB1.out.lt
    clear g1
    go_wp2_with fail
    refine (HFT.out _ HG1.out).mono ?_
    rintro e w2 ⟨rfl, g2⟩
    rw [HF.out]
    clear x0 x1 x2 hbl
    have HB2 := Lib.hid (HB1.out.grew g2)
    have HC2 := Lib.hid (HC1.out.grew g2)
    have HG2 := Lib.hid (HG1.out.trans g2)
    have y0 := HC2.out.cell 0
    have y1 := HC2.out.cell 1
    have y2 := HC2.out.cell 2
    have hcl := HC2.out.lt
    clear g2
    go_wp2_with fail
    refine (HFU.out _ HG2.out).mono ?_
    rintro e w3 ⟨rfl, g3⟩
    rw [HF2.out]
    clear y0 y1 y2 hcl
    go_wp2_with fail
    refine (awake_con _).mono ?_
    rintro e w4 ⟨rfl, g4⟩
    go_wp2_with fail
    go_ret
    exact ⟨rfl, (HG2.out.trans g3).trans g4⟩
  have HSM := Lib.hid hsm
  have HSU := Lib.hid hsu
  clear hsm hsu
  go_enter Tryz.func5, Tryz.ntmps5
  go_wp2_with fail
  refine (awake_con _).mono ?_
  rintro e w1 ⟨rfl, g1⟩
  have HB1 := Lib.hid (HB0.out.grew g1)
  have HC1 := Lib.hid (HC0.out.grew g1)
  have HG1 := Lib.hid (HG0.out.trans g1)
  have x0 := HB1.out.cell 0
  have x1 := HB1.out.cell 1
  have x2 := HB1.out.cell 2
  have hbl := HB1.out.lt
  clear g1
  go_wp2_with fail
  refine (HFT.out _ HG1.out).mono ?_
  rintro e w2 ⟨rfl, g2⟩
  rw [HF.out]
  clear x0 x1 x2 hbl
  have HB2 := Lib.hid (HB1.out.grew g2)
  have HC2 := Lib.hid (HC1.out.grew g2)
  have HG2 := Lib.hid (HG1.out.trans g2)
  have y0 := HC2.out.cell 0
  have y1 := HC2.out.cell 1
  have y2 := HC2.out.cell 2
  have hcl := HC2.out.lt
  clear g2
  go_wp2_with fail
  refine (HFU.out _ HG2.out).mono ?_
  rintro e w3 ⟨rfl, g3⟩
  rw [HF2.out]
  clear y0 y1 y2 hcl
  have HB3 := Lib.hid (HB2.out.grew g3)
  have HC3 := Lib.hid (HC2.out.grew g3)
  have HG3 := Lib.hid (HG2.out.trans g3)
  clear g3
  go_wp2_with fail
  go_loopg [37] ss.length (fun gk i wr => ∃ k : Nat, k ≤ ss.length ∧ gk = ss.length - k ∧ i = .int .i64 k ∧ (∀ x ∈ ss.take k, x.size ≤ 200) ∧ Grew w3 wr)
  case atStart => exact ⟨0, by omega, by omega, rfl, fun x hx => (by cases hx), Grew.refl _⟩
  case round =>
    obtain ⟨k, hk, hgk, rfl, hall, hg⟩ := hrel
    have HGK := Lib.hid hgk
    have HALL := Lib.hid hall
    have HGQ := Lib.hid hg
    have HGR := Lib.hid (HG3.out.trans hg)
    clear hgk hall hg
    by_cases hlt : k < ss.length
    · obtain ⟨b1, o1, rfl, hb1, hc1⟩ := (HLS.out _ HGR.out) (by rw [List.length_map]; omega)
      obtain ⟨x, hx⟩ : ∃ x, ss[k] = x := ⟨_, rfl⟩
      have q0 : wr.cell? ⟨b1, o1 + k, none⟩ = some (.string x) := by
        have := hc1 k (strC x) (by rw [List.getElem?_map, List.getElem?_eq_getElem hlt, hx]; rfl) 0 _ rfl
        simpa using this
      have hxs : x.size ≤ 9223372036854775807 := by rw [← hx]; exact HSZ.out _ (List.getElem_mem hlt)
      clear hc1
      by_cases h200 : x.size ≤ 200
      · have HN := Lib.hid (show ∀ z ∈ ss.take (k + 1), z.size ≤ 200 from fun z hz => by
          rw [List.take_succ_eq_append_getElem hlt] at hz
          rcases List.mem_append.1 hz with hz | hz
          · exact HALL.out z hz
          · rw [List.mem_singleton.1 hz, hx]; exact h200)
        clear hx
        go_wp2_with fail
        go_roundg (ss.length - (k + 1))
        case measure => rw [HGK.out]; omega
        case rel => exact ⟨k + 1, by omega, by omega, by go_num, HN.out, HGQ.out⟩
      · clear hx
        go_wp2_with fail
        go_ret
        exact ⟨rfl, HGR.out⟩
    · have hkn : k = ss.length := by omega
      subst hkn
      have HZ := Lib.hid (show ∀ x ∈ ss, x.size ≤ 1000 from fun x hx => by have := HALL.out; rw [List.take_length] at this; exact Nat.le_trans (this x hx) (by omega))
      have HBr := Lib.hid (HB3.out.grew HGQ.out)
      have HCr := Lib.hid (HC3.out.grew HGQ.out)
      obtain ⟨⟨N, er⟩, hN⟩ : ∃ p, newT T.name T.tracks = p := ⟨_, rfl⟩
      have HN := Lib.hid hN
      have HNM := Lib.hid (newT_nm T.name T.tracks N er hN HTB.out.name HTB.out.tr0 HTB.out.tr1)
      have HSN := Lib.hid (show SmallT N from by have := newT_small T.name T.tracks; rw [hN] at this; exact this)
      have HTN := Lib.hid (show T.name.size ≤ 9223372036854775807 ∧ -9223372036854775808 ≤ T.tracks ∧ T.tracks ≤ 9223372036854775807 from ⟨HTB.out.name, HTB.out.tr0, HTB.out.tr1⟩)
      clear hN
      have x0 := HBr.out.cell 0
      have x1 := HBr.out.cell 1
      have x2 := HBr.out.cell 2
      have hxl := HBr.out.lt
      go_wp2_with fail
      refine (new_tab T.name T.tracks _ HTN.out.1 HTN.out.2.1 HTN.out.2.2 N er HN.out).mono ?_
      rintro e w4 ⟨A4, c4, zs, rfl, ht4, g4⟩
      have gal : Grew w4 (w4.alloc (.cells #[.string N.name, .int .i64 N.tracks, .slice A4 N.labels.length c4] 24)) := (Grew.refl w4).alloc _
      have HT4 := Lib.hid (ht4.hold gal)
      have HN4 := Lib.hid (Blk.new w4 24 #[.string N.name, .int .i64 N.tracks, .slice A4 N.labels.length c4] rfl)
      have HB4 := Lib.hid ((HBr.out.grew g4).grew gal)
      have HC4 := Lib.hid ((HCr.out.grew g4).grew gal)
      have HG4 := Lib.hid ((HGR.out.trans g4).trans gal)
      clear x0 x1 x2 hxl gal ht4 g4
      have x0 := HB4.out.cell 0
      have x1 := HB4.out.cell 1
      have x2 := HB4.out.cell 2
      have hxl := HB4.out.lt
      go_wp2_with fail
      refine (rnew_tab T.name T.tracks _ HTN.out.1 N er HN.out).mono ?_
      rintro e w5 ⟨v5, zs5, rfl, hto5, -, g5⟩
      obtain ⟨A5, c5, rfl, hf5⟩ := hto5.form
      have ht5 := hf5 N.name N.tracks HNM.out.1 HNM.out.2.1 HNM.out.2.2
      have gal : Grew w5 (w5.alloc (.cells #[.string N.name, .int .i64 N.tracks, .slice A5 N.labels.length c5] 24)) := (Grew.refl w5).alloc _
      have HT5 := Lib.hid (show TabAt _ A5 c5 zs5 N from ht5.hold gal)
      have HT45 := Lib.hid ((HT4.out.hold g5).hold gal)
      have HN5 := Lib.hid (Blk.new w5 24 #[.string N.name, .int .i64 N.tracks, .slice A5 N.labels.length c5] rfl)
      have HN45 := Lib.hid ((HN4.out.grew g5).grew gal)
      have HB5 := Lib.hid ((HB4.out.grew g5).grew gal)
      have HC5 := Lib.hid ((HC4.out.grew g5).grew gal)
      have HG5 := Lib.hid ((HG4.out.trans g5).trans gal)
      clear x0 x1 x2 hxl gal ht5 hf5 hto5 g5
      go_wp2_with fail
      refine (load_tab A3 c3 ss _ (HLS.out _ HG5.out) (by omega) HZ.out).mono ?_
      rintro e w6 ⟨A6, c6, xs6, V, ev, rfl, hld, hsv, ht6, g6⟩
      have gal : Grew w6 (w6.alloc (.cells #[.string V.name, .int .i64 V.tracks, .slice A6 V.labels.length c6] 24)) := (Grew.refl w6).alloc _
      have HT6 := Lib.hid (ht6.hold gal)
      have HV6 := Lib.hid (Blk.new w6 24 #[.string V.name, .int .i64 V.tracks, .slice A6 V.labels.length c6] rfl)
      have HSV := Lib.hid hsv
      have HLD := Lib.hid hld
      have gg := g6.trans gal
      have HT46 := Lib.hid (HT45.out.hold gg)
      have HT56 := Lib.hid (HT5.out.hold gg)
      have HN46 := Lib.hid (HN45.out.grew gg)
      have HN56 := Lib.hid (HN5.out.grew gg)
      have HB6 := Lib.hid (HB5.out.grew gg)
      have HC6 := Lib.hid (HC5.out.grew gg)
      have HG6 := Lib.hid (HG5.out.trans gg)
      clear gal ht6 g6 gg hsv hld
      go_wp2_with fail
      refine (rload_tab A3 c3 ss _ (HLS.out _ HG6.out) (by omega) HZ.out).mono ?_
      rintro e w7 ⟨A7, c7, xs7, V7, ev7, rfl, hld, hsv, ht7, g7⟩
      obtain ⟨e1, e2⟩ := HLD.out.unique hld
      subst e1; subst e2
      have gal : Grew w7 (w7.alloc (.cells #[.string V.name, .int .i64 V.tracks, .slice A7 V.labels.length c7] 24)) := (Grew.refl w7).alloc _
      have HT7 := Lib.hid (ht7.hold gal)
      have HV7 := Lib.hid (Blk.new w7 24 #[.string V.name, .int .i64 V.tracks, .slice A7 V.labels.length c7] rfl)
      have gg := g7.trans gal
      have HT47 := Lib.hid (HT46.out.hold gg)
      have HT57 := Lib.hid (HT56.out.hold gg)
      have HT67 := Lib.hid (HT6.out.hold gg)
      have HN47 := Lib.hid (HN46.out.grew gg)
      have HN57 := Lib.hid (HN56.out.grew gg)
      have HV67 := Lib.hid (HV6.out.grew gg)
      have HB7 := Lib.hid (HB6.out.grew gg)
      have HC7 := Lib.hid (HC6.out.grew gg)
      have HG7 := Lib.hid (HG6.out.trans gg)
      clear gal ht7 g7 gg hsv hld
      go_wp2_with fail
      obtain ⟨wz, hwz⟩ : ∃ w', w' = w7.alloc (.cells #[.string V.name, .int .i64 V.tracks, .slice A7 V.labels.length c7] 24) := ⟨_, rfl⟩
      obtain ⟨gN1, hgN1⟩ : ∃ g, g = w4.heap.size := ⟨_, rfl⟩
      obtain ⟨gN2, hgN2⟩ : ∃ g, g = w5.heap.size := ⟨_, rfl⟩
      obtain ⟨gV1, hgV1⟩ : ∃ g, g = w6.heap.size := ⟨_, rfl⟩
      obtain ⟨gV2, hgV2⟩ : ∃ g, g = w7.heap.size := ⟨_, rfl⟩
      rw [← hwz] at HT7 HV7 HT47 HT57 HT67 HN47 HN57 HV67 HB7 HC7 HG7 ⊢
      rw [← hgN1] at HN47 ⊢
      rw [← hgN2] at HN57 ⊢
      rw [← hgV1] at HV67 ⊢
      rw [← hgV2] at HV7 ⊢
      clear hwz hgN1 hgN2 hgV1 hgV2
      have HSG := Lib.hid (show ∀ w1 : World, Grew wz.drew w1 → (fun w' : World => w'.cell? ⟨w.heap.size, 0, none⟩ = some (.string T.name) ∧ w'.cell? ⟨w.heap.size, 1, none⟩ = some (.int .i64 T.tracks) ∧ w'.cell? ⟨w.heap.size, 2, none⟩ = some (.slice A T.labels.length c) ∧ w'.cell? ⟨w.heap.size + 1, 0, none⟩ = some (.string U.name) ∧ w'.cell? ⟨w.heap.size + 1, 1, none⟩ = some (.int .i64 U.tracks) ∧ w'.cell? ⟨w.heap.size + 1, 2, none⟩ = some (.slice A2 U.labels.length c2) ∧ w'.cell? ⟨gN1, 0, none⟩ = some (.string N.name) ∧ w'.cell? ⟨gN1, 1, none⟩ = some (.int .i64 N.tracks) ∧ w'.cell? ⟨gN1, 2, none⟩ = some (.slice A4 N.labels.length c4) ∧ w'.cell? ⟨gN2, 0, none⟩ = some (.string N.name) ∧ w'.cell? ⟨gN2, 1, none⟩ = some (.int .i64 N.tracks) ∧ w'.cell? ⟨gN2, 2, none⟩ = some (.slice A5 N.labels.length c5) ∧ w'.cell? ⟨gV1, 0, none⟩ = some (.string V.name) ∧ w'.cell? ⟨gV1, 1, none⟩ = some (.int .i64 V.tracks) ∧ w'.cell? ⟨gV1, 2, none⟩ = some (.slice A6 V.labels.length c6) ∧ w'.cell? ⟨gV2, 0, none⟩ = some (.string V.name) ∧ w'.cell? ⟨gV2, 1, none⟩ = some (.int .i64 V.tracks) ∧ w'.cell? ⟨gV2, 2, none⟩ = some (.slice A7 V.labels.length c7)) w1 from fun w1 g => ⟨(HB7.out.drew.grew g).cell 0, (HB7.out.drew.grew g).cell 1, (HB7.out.drew.grew g).cell 2, (HC7.out.drew.grew g).cell 0, (HC7.out.drew.grew g).cell 1, (HC7.out.drew.grew g).cell 2, (HN47.out.drew.grew g).cell 0, (HN47.out.drew.grew g).cell 1, (HN47.out.drew.grew g).cell 2, (HN57.out.drew.grew g).cell 0, (HN57.out.drew.grew g).cell 1, (HN57.out.drew.grew g).cell 2, (HV67.out.drew.grew g).cell 0, (HV67.out.drew.grew g).cell 1, (HV67.out.drew.grew g).cell 2, (HV7.out.drew.grew g).cell 0, (HV7.out.drew.grew g).cell 1, (HV7.out.drew.grew g).cell 2⟩)
      have hS : (fun w' : World => w'.cell? ⟨w.heap.size, 0, none⟩ = some (.string T.name) ∧ w'.cell? ⟨w.heap.size, 1, none⟩ = some (.int .i64 T.tracks) ∧ w'.cell? ⟨w.heap.size, 2, none⟩ = some (.slice A T.labels.length c) ∧ w'.cell? ⟨w.heap.size + 1, 0, none⟩ = some (.string U.name) ∧ w'.cell? ⟨w.heap.size + 1, 1, none⟩ = some (.int .i64 U.tracks) ∧ w'.cell? ⟨w.heap.size + 1, 2, none⟩ = some (.slice A2 U.labels.length c2) ∧ w'.cell? ⟨gN1, 0, none⟩ = some (.string N.name) ∧ w'.cell? ⟨gN1, 1, none⟩ = some (.int .i64 N.tracks) ∧ w'.cell? ⟨gN1, 2, none⟩ = some (.slice A4 N.labels.length c4) ∧ w'.cell? ⟨gN2, 0, none⟩ = some (.string N.name) ∧ w'.cell? ⟨gN2, 1, none⟩ = some (.int .i64 N.tracks) ∧ w'.cell? ⟨gN2, 2, none⟩ = some (.slice A5 N.labels.length c5) ∧ w'.cell? ⟨gV1, 0, none⟩ = some (.string V.name) ∧ w'.cell? ⟨gV1, 1, none⟩ = some (.int .i64 V.tracks) ∧ w'.cell? ⟨gV1, 2, none⟩ = some (.slice A6 V.labels.length c6) ∧ w'.cell? ⟨gV2, 0, none⟩ = some (.string V.name) ∧ w'.cell? ⟨gV2, 1, none⟩ = some (.int .i64 V.tracks) ∧ w'.cell? ⟨gV2, 2, none⟩ = some (.slice A7 V.labels.length c7)) wz.drew := HSG.out _ (Grew.refl _)
      have HGD := Lib.hid (show Grew w wz.drew from HG7.out.drew)
      have hgz := Grew.refl wz.drew
      have hgd := Grew.drew (Grew.refl wz)
      have HD47 := Lib.hid (HT47.out.hold hgd)
      have HD57 := Lib.hid (HT57.out.hold hgd)
      have HD67 := Lib.hid (HT67.out.hold hgd)
      have HD7 := Lib.hid (HT7.out.hold hgd)
      have hee : (er == er) = true := by simp
      have hvv : (ev == ev) = true := by simp
      have HDL := Lib.hid (diffT_len T U HSM.out)
      have HSS := Lib.hid (sec_short T HSM.out.len)
      clear hgd
      refine wp_region_R [] (fun w' : World => w'.cell? ⟨w.heap.size, 0, none⟩ = some (.string T.name) ∧ w'.cell? ⟨w.heap.size, 1, none⟩ = some (.int .i64 T.tracks) ∧ w'.cell? ⟨w.heap.size, 2, none⟩ = some (.slice A T.labels.length c) ∧ w'.cell? ⟨w.heap.size + 1, 0, none⟩ = some (.string U.name) ∧ w'.cell? ⟨w.heap.size + 1, 1, none⟩ = some (.int .i64 U.tracks) ∧ w'.cell? ⟨w.heap.size + 1, 2, none⟩ = some (.slice A2 U.labels.length c2) ∧ w'.cell? ⟨gN1, 0, none⟩ = some (.string N.name) ∧ w'.cell? ⟨gN1, 1, none⟩ = some (.int .i64 N.tracks) ∧ w'.cell? ⟨gN1, 2, none⟩ = some (.slice A4 N.labels.length c4) ∧ w'.cell? ⟨gN2, 0, none⟩ = some (.string N.name) ∧ w'.cell? ⟨gN2, 1, none⟩ = some (.int .i64 N.tracks) ∧ w'.cell? ⟨gN2, 2, none⟩ = some (.slice A5 N.labels.length c5) ∧ w'.cell? ⟨gV1, 0, none⟩ = some (.string V.name) ∧ w'.cell? ⟨gV1, 1, none⟩ = some (.int .i64 V.tracks) ∧ w'.cell? ⟨gV1, 2, none⟩ = some (.slice A6 V.labels.length c6) ∧ w'.cell? ⟨gV2, 0, none⟩ = some (.string V.name) ∧ w'.cell? ⟨gV2, 1, none⟩ = some (.int .i64 V.tracks) ∧ w'.cell? ⟨gV2, 2, none⟩ = some (.slice A7 V.labels.length c7)) (by kernel_rfl) ?_
      refine wpAnyR_takeQ (i := 0) (v := ?_) (some 71) rfl rfl (by kernel_rfl) (by kernel_rfl) (by kernel_rfl) (by kernel_rfl) (fun _ _ _ h => h) (Or.inl ⟨by rfl, ?_⟩) ?_
      rotate_left
      focus (intro wS hSw; (try dsimp only at hSw); go_simp; (try with_reducible rfl); (try (first | (rw [if_pos (by omega)]; (try go_simp); (try with_reducible rfl)) | (rw [if_neg (by omega)]; (try go_simp); (try with_reducible rfl)))))
      try simp only [Act.put, zA, zB, zC]
      refine wpAnyR_takeQ (i := 1) (v := ?_) (some 72) rfl rfl (by kernel_rfl) (by kernel_rfl) (by kernel_rfl) (by kernel_rfl) (fun _ _ _ h => h) (Or.inl ⟨by rfl, ?_⟩) ?_
      rotate_left
      focus (intro wS hSw; (try dsimp only at hSw); go_simp; (try with_reducible rfl); (try (first | (rw [if_pos (by omega)]; (try go_simp); (try with_reducible rfl)) | (rw [if_neg (by omega)]; (try go_simp); (try with_reducible rfl)))))
      try simp only [Act.put, zA, zB, zC]
      refine wpAnyR_takeQ (i := 2) (v := ?_) (some 73) rfl rfl (by kernel_rfl) (by kernel_rfl) (by kernel_rfl) (by kernel_rfl) (fun _ _ _ h => h) (Or.inl ⟨by rfl, ?_⟩) ?_
      rotate_left
      focus (intro wS hSw; (try dsimp only at hSw); go_simp; (try with_reducible rfl); (try (first | (rw [if_pos (by omega)]; (try go_simp); (try with_reducible rfl)) | (rw [if_neg (by omega)]; (try go_simp); (try with_reducible rfl)))))
      try simp only [Act.put, zA, zB, zC]
      try rw [hee]
      refine wpAnyR_takeQ (i := 3) (v := ?_) (some 74) rfl rfl (by kernel_rfl) (by kernel_rfl) (by kernel_rfl) (by kernel_rfl) (fun _ _ _ h => h) (Or.inl ⟨by rfl, ?_⟩) ?_
      rotate_left
      focus (intro wS hSw; (try dsimp only at hSw); go_simp; (try with_reducible rfl); (try (first | (rw [if_pos (by omega)]; (try go_simp); (try with_reducible rfl)) | (rw [if_neg (by omega)]; (try go_simp); (try with_reducible rfl)))))
      try simp only [Act.put, zA, zB, zC]
      refine wpAnyR_take (i := 4) (v := ?_) [6, 7, 8, 9, 10, 11, 12, 13, 14, 15, 16, 17, 18, 19, 20, 21, 22, 23, 24, 25, 26, 27, 28, 29, 30, 31, 32, 33, 34] (some 75) rfl rfl (by kernel_rfl) (by kernel_rfl) (by kernel_rfl) (by kernel_rfl) (by kernel_rfl) (by kernel_rfl) (by kernel_rfl) (fun _ _ _ h => h) (Or.inl ⟨by rfl, ?_⟩) hS ?_
      rotate_left
      focus (intro wS hSw; (try dsimp only at hSw); go_simp; (try with_reducible rfl); (try (first | (rw [if_pos (by omega)]; (try go_simp); (try with_reducible rfl)) | (rw [if_neg (by omega)]; (try go_simp); (try with_reducible rfl)))))
      try simp only [Act.put, zA, zB, zC]
      refine wpAnyR_take (i := 5) (v := ?_) [6, 7, 8, 9, 10, 11, 12, 13, 14, 15, 16, 17, 18, 19, 20, 21, 22, 23, 24, 25, 26, 27, 28, 29, 30, 31, 32, 33, 34] (some 76) rfl rfl (by kernel_rfl) (by kernel_rfl) (by kernel_rfl) (by kernel_rfl) (by kernel_rfl) (by kernel_rfl) (by kernel_rfl) (fun _ _ _ h => h) (Or.inl ⟨by rfl, ?_⟩) hS ?_
      rotate_left
      focus (intro wS hSw; (try dsimp only at hSw); go_simp; (try with_reducible rfl); (try (first | (rw [if_pos (by omega)]; (try go_simp); (try with_reducible rfl)) | (rw [if_neg (by omega)]; (try go_simp); (try with_reducible rfl)))))
      try simp only [Act.put, zA, zB, zC]
      refine wpAnyR_n1 (i := 6) rfl (by kernel_rfl) ?_
      intro K' hK
      rw [if_pos (by rfl)]
      simp only [List.getElem_toArray, List.getElem_cons_succ, List.getElem_cons_zero]
      go_wp2_with fail
      refine (rsame_tab A4 A5 c4 c5 zs zs5 N N _ (HD47.out.hold hgz) HSN.out (HD57.out.hold hgz) HSN.out true (same_self N)).mono ?_
      rintro e v0 ⟨rfl, k0⟩
      have G0 := hgz.trans k0
      go_wp2_with fail
      refine hK.out _ _ (.inr (fun _ => HSG.out _ G0)) ?_
      clear hK hS k0
      have hS := HSG.out _ G0
      refine wpAnyR_takeQ (i := 7) (v := ?_) (some 78) rfl rfl (by kernel_rfl) (by kernel_rfl) (by kernel_rfl) (by kernel_rfl) (fun _ _ _ h => h) (Or.inl ⟨by rfl, ?_⟩) ?_
      rotate_left
      focus (intro wS hSw; (try dsimp only at hSw); go_simp; (try with_reducible rfl); (try (first | (rw [if_pos (by omega)]; (try go_simp); (try with_reducible rfl)) | (rw [if_neg (by omega)]; (try go_simp); (try with_reducible rfl)))))
      try simp only [Act.put, zA, zB, zC]
      refine wpAnyR_takeQ (i := 8) (v := ?_) (some 79) rfl rfl (by kernel_rfl) (by kernel_rfl) (by kernel_rfl) (by kernel_rfl) (fun _ _ _ h => h) (Or.inl ⟨by rfl, ?_⟩) ?_
      rotate_left
      focus (intro wS hSw; (try dsimp only at hSw); go_simp; (try with_reducible rfl); (try (first | (rw [if_pos (by omega)]; (try go_simp); (try with_reducible rfl)) | (rw [if_neg (by omega)]; (try go_simp); (try with_reducible rfl)))))
      try simp only [Act.put, zA, zB, zC]
      refine wpAnyR_takeQ (i := 9) (v := ?_) (some 80) rfl rfl (by kernel_rfl) (by kernel_rfl) (by kernel_rfl) (by kernel_rfl) (fun _ _ _ h => h) (Or.inl ⟨by rfl, ?_⟩) ?_
      rotate_left
      focus (intro wS hSw; (try dsimp only at hSw); go_simp; (try with_reducible rfl); (try (first | (rw [if_pos (by omega)]; (try go_simp); (try with_reducible rfl)) | (rw [if_neg (by omega)]; (try go_simp); (try with_reducible rfl)))))
      try simp only [Act.put, zA, zB, zC]
      refine wpAnyR_takeQ (i := 10) (v := ?_) (some 81) rfl rfl (by kernel_rfl) (by kernel_rfl) (by kernel_rfl) (by kernel_rfl) (fun _ _ _ h => h) (Or.inl ⟨by rfl, ?_⟩) ?_
      rotate_left
      focus (intro wS hSw; (try dsimp only at hSw); go_simp; (try with_reducible rfl); (try (first | (rw [if_pos (by omega)]; (try go_simp); (try with_reducible rfl)) | (rw [if_neg (by omega)]; (try go_simp); (try with_reducible rfl)))))
      try simp only [Act.put, zA, zB, zC]
      refine wpAnyR_takeQ (i := 11) (v := ?_) (some 82) rfl rfl (by kernel_rfl) (by kernel_rfl) (by kernel_rfl) (by kernel_rfl) (fun _ _ _ h => h) (Or.inl ⟨by rfl, ?_⟩) ?_
      rotate_left
      focus (intro wS hSw; (try dsimp only at hSw); go_simp; (try with_reducible rfl); (try (first | (rw [if_pos (by omega)]; (try go_simp); (try with_reducible rfl)) | (rw [if_neg (by omega)]; (try go_simp); (try with_reducible rfl)))))
      try simp only [Act.put, zA, zB, zC]
      try rw [hvv]
      refine wpAnyR_takeQ (i := 12) (v := ?_) (some 83) rfl rfl (by kernel_rfl) (by kernel_rfl) (by kernel_rfl) (by kernel_rfl) (fun _ _ _ h => h) (Or.inl ⟨by rfl, ?_⟩) ?_
      rotate_left
      focus (intro wS hSw; (try dsimp only at hSw); go_simp; (try with_reducible rfl); (try (first | (rw [if_pos (by omega)]; (try go_simp); (try with_reducible rfl)) | (rw [if_neg (by omega)]; (try go_simp); (try with_reducible rfl)))))
      try simp only [Act.put, zA, zB, zC]
      refine wpAnyR_takeQ (i := 13) (v := ?_) (some 84) rfl rfl (by kernel_rfl) (by kernel_rfl) (by kernel_rfl) (by kernel_rfl) (fun _ _ _ h => h) (Or.inl ⟨by rfl, ?_⟩) ?_
      rotate_left
      focus (intro wS hSw; (try dsimp only at hSw); go_simp; (try with_reducible rfl); (try (first | (rw [if_pos (by omega)]; (try go_simp); (try with_reducible rfl)) | (rw [if_neg (by omega)]; (try go_simp); (try with_reducible rfl)))))
      try simp only [Act.put, zA, zB, zC]
      refine wpAnyR_take (i := 14) (v := ?_) [16, 17, 18, 19, 20, 21, 22, 23, 24, 25, 26, 27, 28, 29, 30, 31, 32, 33, 34] (some 85) rfl rfl (by kernel_rfl) (by kernel_rfl) (by kernel_rfl) (by kernel_rfl) (by kernel_rfl) (by kernel_rfl) (by kernel_rfl) (fun _ _ _ h => h) (Or.inl ⟨by rfl, ?_⟩) hS ?_
      rotate_left
      focus (intro wS hSw; (try dsimp only at hSw); go_simp; (try with_reducible rfl); (try (first | (rw [if_pos (by omega)]; (try go_simp); (try with_reducible rfl)) | (rw [if_neg (by omega)]; (try go_simp); (try with_reducible rfl)))))
      try simp only [Act.put, zA, zB, zC]
      refine wpAnyR_take (i := 15) (v := ?_) [16, 17, 18, 19, 20, 21, 22, 23, 24, 25, 26, 27, 28, 29, 30, 31, 32, 33, 34] (some 86) rfl rfl (by kernel_rfl) (by kernel_rfl) (by kernel_rfl) (by kernel_rfl) (by kernel_rfl) (by kernel_rfl) (by kernel_rfl) (fun _ _ _ h => h) (Or.inl ⟨by rfl, ?_⟩) hS ?_
      rotate_left
      focus (intro wS hSw; (try dsimp only at hSw); go_simp; (try with_reducible rfl); (try (first | (rw [if_pos (by omega)]; (try go_simp); (try with_reducible rfl)) | (rw [if_neg (by omega)]; (try go_simp); (try with_reducible rfl)))))
      try simp only [Act.put, zA, zB, zC]
      refine wpAnyR_n1 (i := 16) rfl (by kernel_rfl) ?_
      intro K' hK
      rw [if_pos (by rfl)]
      simp only [List.getElem_toArray, List.getElem_cons_succ, List.getElem_cons_zero]
      go_wp2_with fail
      refine (rsame_tab A6 A7 c6 c7 xs6 xs7 V V _ (HD67.out.hold G0) HSV.out (HD7.out.hold G0) HSV.out true (same_self V)).mono ?_
      rintro e v1 ⟨rfl, k1⟩
      have G1 := G0.trans k1
      go_wp2_with fail
      refine hK.out _ _ (.inr (fun _ => HSG.out _ G1)) ?_
      clear hK hS k1 G0
      have hS := HSG.out _ G1
      refine wpAnyR_takeQ (i := 17) (v := ?_) (some 88) rfl rfl (by kernel_rfl) (by kernel_rfl) (by kernel_rfl) (by kernel_rfl) (fun _ _ _ h => h) (Or.inl ⟨by rfl, ?_⟩) ?_
      rotate_left
      focus (intro wS hSw; (try dsimp only at hSw); go_simp; (try with_reducible rfl); (try (first | (rw [if_pos (by omega)]; (try go_simp); (try with_reducible rfl)) | (rw [if_neg (by omega)]; (try go_simp); (try with_reducible rfl)))))
      try simp only [Act.put, zA, zB, zC]
      refine wpAnyR_takeQ (i := 18) (v := ?_) (some 89) rfl rfl (by kernel_rfl) (by kernel_rfl) (by kernel_rfl) (by kernel_rfl) (fun _ _ _ h => h) (Or.inl ⟨by rfl, ?_⟩) ?_
      rotate_left
      focus (intro wS hSw; (try dsimp only at hSw); go_simp; (try with_reducible rfl); (try (first | (rw [if_pos (by omega)]; (try go_simp); (try with_reducible rfl)) | (rw [if_neg (by omega)]; (try go_simp); (try with_reducible rfl)))))
      try simp only [Act.put, zA, zB, zC]
      refine wpAnyR_take (i := 19) (v := ?_) [20, 22, 23, 24, 25, 26, 27, 28, 29, 30, 31, 32, 33, 34] (some 90) rfl rfl (by kernel_rfl) (by kernel_rfl) (by kernel_rfl) (by kernel_rfl) (by kernel_rfl) (by kernel_rfl) (by kernel_rfl) (fun _ _ _ h => h) (Or.inl ⟨by rfl, ?_⟩) hS ?_
      rotate_left
      focus (intro wS hSw; (try dsimp only at hSw); go_simp; (try with_reducible rfl); (try (first | (rw [if_pos (by omega)]; (try go_simp); (try with_reducible rfl)) | (rw [if_neg (by omega)]; (try go_simp); (try with_reducible rfl)))))
      try simp only [Act.put, zA, zB, zC]
      refine wpAnyR_take (i := 21) (v := ?_) [22, 23, 24, 25, 26, 27, 28, 29, 30, 31, 32, 33, 34] (some 92) rfl rfl (by kernel_rfl) (by kernel_rfl) (by kernel_rfl) (by kernel_rfl) (by kernel_rfl) (by kernel_rfl) (by kernel_rfl) (fun _ _ _ h => h) (Or.inl ⟨by rfl, ?_⟩) hS ?_
      rotate_left
      focus (intro wS hSw; (try dsimp only at hSw); go_simp; (try with_reducible rfl); (try (first | (rw [if_pos (by omega)]; (try go_simp); (try with_reducible rfl)) | (rw [if_neg (by omega)]; (try go_simp); (try with_reducible rfl)))))
      try simp only [Act.put, zA, zB, zC]
      refine wpAnyR_n1 (i := 20) rfl (by kernel_rfl) ?_
      intro K' hK
      rw [if_pos (by rfl)]
      simp only [List.getElem_toArray, List.getElem_cons_succ, List.getElem_cons_zero]
      go_wp2_with fail
      refine (sectors_tab A c xs T _ (HTB.out.hold (HGD.out.trans G1)) HSM.out).mono ?_
      rintro e v2 ⟨s2, rfl, ho2, k2⟩
      have G2 := G1.trans k2
      obtain ⟨B2, d2, rfl, -, -, hr2⟩ := ho2.listAt
      go_wp2_with fail
      refine hK.out _ _ (.inr (fun _ => HSG.out _ G2)) ?_
      clear hK hS k2 ho2
      have hS := HSG.out _ G2
      refine wpAnyR_n1 (i := 22) rfl (by kernel_rfl) ?_
      intro K' hK
      rw [if_pos (by rfl)]
      simp only [List.getElem_toArray, List.getElem_cons_succ, List.getElem_cons_zero]
      go_wp2_with fail
      refine (rsectors_tab A c xs T _ (HTB.out.hold (HGD.out.trans G2)) HSM.out).mono ?_
      rintro e v3 ⟨s3, rfl, ho3, k3⟩
      have G3 := G2.trans k3
      obtain ⟨B3, d3, rfl, -, -, hr3⟩ := ho3.listAt
      have HL2 := Lib.hid (show ListAt v3 v3.heap.size 1 B2 ((secT T).map strC) from (hr2.keep (Nat.le_refl _) k3).mono k3.size)
      have HL3 := Lib.hid hr3
      go_wp2_with fail
      refine hK.out _ _ (.inr (fun _ => HSG.out _ G3)) ?_
      clear hK hS k3 ho3 hr2 hr3
      have hS := HSG.out _ G3
      refine wpAnyR_n1 (i := 23) rfl (by kernel_rfl) ?_
      intro K' hK
      rw [if_pos (by rfl)]
      simp only [List.getElem_toArray, List.getElem_cons_succ, List.getElem_cons_zero]
      go_wp2_with fail
      try rw [List.length_map]
      refine (texts_any B2 B3 d2 d3 (secT T) (secT T) _ HL2.out HL3.out (by have := HSS.out; omega) (by have := HSS.out; omega) true (decide_eq_true rfl)).mono ?_
      rintro e v4 ⟨rfl, k4⟩
      have G4 := G3.trans k4
      go_wp2_with fail
      refine hK.out _ _ (.inr (fun _ => HSG.out _ G4)) ?_
      clear hK hS k4
      have hS := HSG.out _ G4
      refine wpAnyR_takeQ (i := 24) (v := ?_) (some 95) rfl rfl (by kernel_rfl) (by kernel_rfl) (by kernel_rfl) (by kernel_rfl) (fun _ _ _ h => h) (Or.inl ⟨by rfl, ?_⟩) ?_
      rotate_left
      focus (intro wS hSw; (try dsimp only at hSw); go_simp; (try with_reducible rfl); (try (first | (rw [if_pos (by omega)]; (try go_simp); (try with_reducible rfl)) | (rw [if_neg (by omega)]; (try go_simp); (try with_reducible rfl)))))
      try simp only [Act.put, zA, zB, zC]
      refine wpAnyR_takeQ (i := 25) (v := ?_) (some 96) rfl rfl (by kernel_rfl) (by kernel_rfl) (by kernel_rfl) (by kernel_rfl) (fun _ _ _ h => h) (Or.inl ⟨by rfl, ?_⟩) ?_
      rotate_left
      focus (intro wS hSw; (try dsimp only at hSw); go_simp; (try with_reducible rfl); (try (first | (rw [if_pos (by omega)]; (try go_simp); (try with_reducible rfl)) | (rw [if_neg (by omega)]; (try go_simp); (try with_reducible rfl)))))
      try simp only [Act.put, zA, zB, zC]
      refine wpAnyR_take (i := 26) (v := ?_) [28, 31, 32, 33, 34] (some 97) rfl rfl (by kernel_rfl) (by kernel_rfl) (by kernel_rfl) (by kernel_rfl) (by kernel_rfl) (by kernel_rfl) (by kernel_rfl) (fun _ _ _ h => h) (Or.inl ⟨by rfl, ?_⟩) hS ?_
      rotate_left
      focus (intro wS hSw; (try dsimp only at hSw); go_simp; (try with_reducible rfl); (try (first | (rw [if_pos (by omega)]; (try go_simp); (try with_reducible rfl)) | (rw [if_neg (by omega)]; (try go_simp); (try with_reducible rfl)))))
      try simp only [Act.put, zA, zB, zC]
      refine wpAnyR_take (i := 27) (v := ?_) [28, 31, 32, 33, 34] (some 98) rfl rfl (by kernel_rfl) (by kernel_rfl) (by kernel_rfl) (by kernel_rfl) (by kernel_rfl) (by kernel_rfl) (by kernel_rfl) (fun _ _ _ h => h) (Or.inl ⟨by rfl, ?_⟩) hS ?_
      rotate_left
      focus (intro wS hSw; (try dsimp only at hSw); go_simp; (try with_reducible rfl); (try (first | (rw [if_pos (by omega)]; (try go_simp); (try with_reducible rfl)) | (rw [if_neg (by omega)]; (try go_simp); (try with_reducible rfl)))))
      try simp only [Act.put, zA, zB, zC]
      refine wpAnyR_take (i := 29) (v := ?_) [31, 32, 33, 34] (some 100) rfl rfl (by kernel_rfl) (by kernel_rfl) (by kernel_rfl) (by kernel_rfl) (by kernel_rfl) (by kernel_rfl) (by kernel_rfl) (fun _ _ _ h => h) (Or.inl ⟨by rfl, ?_⟩) hS ?_
      rotate_left
      focus (intro wS hSw; (try dsimp only at hSw); go_simp; (try with_reducible rfl); (try (first | (rw [if_pos (by omega)]; (try go_simp); (try with_reducible rfl)) | (rw [if_neg (by omega)]; (try go_simp); (try with_reducible rfl)))))
      try simp only [Act.put, zA, zB, zC]
      refine wpAnyR_take (i := 30) (v := ?_) [31, 32, 33, 34] (some 101) rfl rfl (by kernel_rfl) (by kernel_rfl) (by kernel_rfl) (by kernel_rfl) (by kernel_rfl) (by kernel_rfl) (by kernel_rfl) (fun _ _ _ h => h) (Or.inl ⟨by rfl, ?_⟩) hS ?_
      rotate_left
      focus (intro wS hSw; (try dsimp only at hSw); go_simp; (try with_reducible rfl); (try (first | (rw [if_pos (by omega)]; (try go_simp); (try with_reducible rfl)) | (rw [if_neg (by omega)]; (try go_simp); (try with_reducible rfl)))))
      try simp only [Act.put, zA, zB, zC]
      refine wpAnyR_n1 (i := 28) rfl (by kernel_rfl) ?_
      intro K' hK
      rw [if_pos (by rfl)]
      simp only [List.getElem_toArray, List.getElem_cons_succ, List.getElem_cons_zero]
      go_wp2_with fail
      refine (changes_tab A A2 c c2 xs ys T U _ (HTB.out.hold (HGD.out.trans G4)) HSM.out (HUB.out.hold (HGD.out.trans G4)) HSU.out).mono ?_
      rintro e v5 ⟨s5, rfl, ho5, k5⟩
      have G5 := G4.trans k5
      obtain ⟨B5, d5, rfl, -, -, hr5⟩ := ho5.listAt
      go_wp2_with fail
      refine hK.out _ _ (.inr (fun _ => HSG.out _ G5)) ?_
      clear hK hS k5 ho5
      have hS := HSG.out _ G5
      refine wpAnyR_n1 (i := 31) rfl (by kernel_rfl) ?_
      intro K' hK
      rw [if_pos (by rfl)]
      simp only [List.getElem_toArray, List.getElem_cons_succ, List.getElem_cons_zero]
      go_wp2_with fail
      refine (rchanges_tab A A2 c c2 xs ys T U _ (HTB.out.hold (HGD.out.trans G5)) HSM.out (HUB.out.hold (HGD.out.trans G5)) HSU.out).mono ?_
      rintro e v6 ⟨s6, rfl, ho6, k6⟩
      have G6 := G5.trans k6
      obtain ⟨B6, d6, rfl, -, -, hr6⟩ := ho6.listAt
      have HW5 := Lib.hid (show ListAt v6 v6.heap.size 2 B5 ((diffT T U).map wrC) from (hr5.keep (Nat.le_refl _) k6).mono k6.size)
      have HW6 := Lib.hid hr6
      go_wp2_with fail
      refine hK.out _ _ (.inr (fun _ => HSG.out _ G6)) ?_
      clear hK hS k6 ho6 hr5 hr6
      have hS := HSG.out _ G6
      refine wpAnyR_n1 (i := 32) rfl (by kernel_rfl) ?_
      intro K' hK
      rw [if_pos (by rfl)]
      simp only [List.getElem_toArray, List.getElem_cons_succ, List.getElem_cons_zero]
      go_wp2_with fail
      try rw [List.length_map]
      refine (same_writes B5 B6 d5 d6 (diffT T U) _ HW5.out HW6.out (by have := HDL.out; omega)).mono ?_
      rintro e v7 ⟨rfl, k7⟩
      have G7 := G6.trans k7
      go_wp2_with fail
      refine hK.out _ _ (.inr (fun _ => HSG.out _ G7)) ?_
      clear hK hS k7
      have hS := HSG.out _ G7
      refine wpAnyR_takeQ (i := 33) (v := ?_) (some 104) rfl rfl (by kernel_rfl) (by kernel_rfl) (by kernel_rfl) (by kernel_rfl) (fun _ _ _ h => h) (Or.inl ⟨by rfl, ?_⟩) ?_
      rotate_left
      focus (intro wS hSw; (try dsimp only at hSw); go_simp; (try with_reducible rfl); (try (first | (rw [if_pos (by omega)]; (try go_simp); (try with_reducible rfl)) | (rw [if_neg (by omega)]; (try go_simp); (try with_reducible rfl)))))
      try simp only [Act.put, zA, zB, zC]
      refine wpAnyR_takeQ (i := 34) (v := ?_) (some 6) rfl rfl (by kernel_rfl) (by kernel_rfl) (by kernel_rfl) (by kernel_rfl) (fun _ _ _ h => h) (Or.inl ⟨by rfl, ?_⟩) ?_
      rotate_left
      focus (intro wS hSw; (try dsimp only at hSw); go_simp; (try with_reducible rfl); (try (first | (rw [if_pos (by omega)]; (try go_simp); (try with_reducible rfl)) | (rw [if_neg (by omega)]; (try go_simp); (try with_reducible rfl)))))
      try simp only [Act.put, zA, zB, zC]
      refine wpAnyR_done (by kernel_rfl) ?_ _
      go_wp2_with fail
      go_ret
      exact ⟨rfl, HGD.out.trans G7⟩
end
end Go.Proofs.YtnlaogneceanoaaGreat
