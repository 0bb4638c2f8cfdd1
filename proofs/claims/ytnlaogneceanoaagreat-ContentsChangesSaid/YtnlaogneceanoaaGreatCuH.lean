/- Chapter 8: Free, Find, New. Chapter 8: the reference's Valid. -/
import Derived.Laws.MakeOwn
import Derived.Test.YtnlaogneceanoaaGreatCuD
import Derived.Test.YtnlaogneceanoaaGreatCuG
namespace Go.Proofs.YtnlaogneceanoaaGreat
set_option linter.unusedVariables false
set_option linter.unusedSimpArgs false
set_option linter.unusedSectionVars false
open Go.RowKit
attribute [local go_sem ↓] Go.wp_at_zero Go.wp_at_succ
theorem validT_facts (T : Tab) (h : validT T = true) : T.labels.length ≤ 31 ∧ (extsL T.labels).length ≤ 496 ∧ (∀ l ∈ T.labels, l.ext.length ≤ 16 ∧ 0 ≤ l.unit) :=
  ⟨((validT_iff T).1 h).small.1, ((validT_iff T).1 h).exts, ((validT_iff T).1 h).small.2⟩
theorem ttS_i64 (t : Int) : -9223372036854775808 ≤ ttS t ∧ ttS t ≤ 9223372036854775807 := by have := ttS_bd t; omega
set_option maxRecDepth 100000 in
set_option maxHeartbeats 4000000 in
theorem free_tab (A : Option Addr) (c : Nat) (xs : List LabE) (T : Tab) (w : World) (h : TabAt w A c xs T) (hs : SmallT T) (n : Nat) (hn : n = T.labels.length) (kf : List (Int × Int)) (hkf : freeT T = kf) :
    Calls Tryz.prog 17 #[.agg #[.string T.name, .int .i64 T.tracks, .slice A n c]] w fun e w' => ∃ A c, e = .returned (.slice A kf.length c) ∧ RunsAt w' w'.heap.size A kf ∧ Grew w w' := by
  subst hn; subst hkf
  have hg0 := (Grew.refl w).alloc (.cells #[.string T.name, .int .i64 T.tracks, .slice A T.labels.length c] 24)
  have HB0 := Lib.hid (Blk.new w 24 #[.string T.name, .int .i64 T.tracks, .slice A T.labels.length c] rfl)
  have HV := Lib.hid (valid_tab A c xs T _ (h.hold hg0) hs _ rfl)
  have HTB := Lib.hid h
  have HS := Lib.hid hs
  have HG0 := Lib.hid hg0
  have htr0 := h.tr0
  have htr1 := h.tr1
  clear h hs hg0
  cases hv : validT T with
  | false =>
    have HE := Lib.hid (show freeT T = [] from by unfold freeT; rw [hv]; rfl)
    have HVF := Lib.hid hv
    clear hv
    go_enter Tryz.func17, Tryz.ntmps17
    go_wp2_with fail
    refine HV.out.mono ?_
    rintro e w1 ⟨rfl, g1⟩
    rw [HVF.out]
    go_wp2_with fail
    go_ret
    exact ⟨none, 0, by rw [HE.out]; rfl, by rw [HE.out]; exact nil_runs _, HG0.out.trans g1⟩
  | true =>
    obtain ⟨hn31, hx496, hall⟩ := validT_facts T hv
    have HFR := Lib.hid (show freeS (ttS T.tracks) T.tracks (extsL T.labels) = freeT T from by unfold freeT; rw [if_pos hv])
    have HVF := Lib.hid hv
    have HAL := Lib.hid hall
    clear hv hall
    go_enter Tryz.func17, Tryz.ntmps17
    go_wp2_with fail
    refine HV.out.mono ?_
    rintro e w1 ⟨rfl, g1⟩
    rw [HVF.out]
    have hb1 := HB0.out.grew g1
    have hg1 := HG0.out.trans g1
    have x2 := hb1.cell 2
    have hl1 := hb1.lt
    clear g1
    go_wp2_with fail
    go_loopg [3, 12] T.labels.length (fun gk ov i wr => ∃ k : Nat, k ≤ T.labels.length ∧ gk = T.labels.length - k ∧ i = .int .i64 k ∧ OwnL wr w.heap.size 65 2 ov ((extsL (T.labels.take k)).map runC) ∧ Blk wr w.heap.size 24 #[.string T.name, .int .i64 T.tracks, .slice A T.labels.length c] ∧ (extsL (T.labels.take k)).length ≤ 16 * k ∧ Grew w wr)
    case atStart => exact ⟨0, by omega, by omega, rfl, OwnL.nil _ _ _ _, hb1, by simp [extsL], hg1⟩
    case round =>
      obtain ⟨k, hk, hgk, rfl, hown, hb, hxl, hg⟩ := hrel
      have HGK := Lib.hid hgk
      have HOWN := Lib.hid hown
      have HB := Lib.hid hb
      have HG := Lib.hid hg
      have hbl0 := hb.lt
      have hgs := hg.size
      clear hgk x2 hb1
      by_cases hlt : k < T.labels.length
      · obtain ⟨b, off, B, d, l, rfl, hbl, hxk, hv, hla, c0, c1, c2, c3, c4⟩ := (HTB.out.hold hg).at_ hlt
        have hle := (HAL.out T.labels[k] (List.getElem_mem hlt)).1
        rw [hv] at hle
        have hes := extsL_snoc T.labels k hlt
        rw [hv] at hes
        have HES := Lib.hid hes
        have hgl : Grew wr (wr.alloc (.cells #[.int .i64 l.id, .int .i64 l.unit, .string l.name, .string l.note, .slice B l.ext.length d] 31)) := (Grew.refl wr).alloc _
        have hr2 := ((hla.hold hgl).runs.2.mono (Nat.le_refl _))
        have hown2 := hown.alloc (.cells #[.int .i64 l.id, .int .i64 l.unit, .string l.name, .string l.note, .slice B l.ext.length d] 31)
        have hge := hown.row_ge
        have n3 := hown.ne_blk hb (by decide)
        have hb2 := hb.alloc (.cells #[.int .i64 l.id, .int .i64 l.unit, .string l.name, .string l.note, .slice B l.ext.length d] 31)
        have hg2 := hg.alloc (.cells #[.int .i64 l.id, .int .i64 l.unit, .string l.name, .string l.note, .slice B l.ext.length d] 31)
        clear hv hxk hla hes hgl hown hb hg
        go_wp2_with (at_builtin; refine wpList_pushAll (by rfl) _ _ 29 rfl w.heap.size 65 2 16 _ Tryz.underlying29 info_run rfl (by decide) _ _ (l.ext.map runC) (by rfl) hown2 B l.ext.length _ (by rfl) (by rw [List.length_map]) (map_one_len _) hr2 (map_one_one _) (by rw [List.length_map]; omega) (by rw [List.length_map]; omega) (by simp; omega) ?_; intro v1 w3 hown3 hgr3 hat3)
        have HO3 := Lib.hid hown3
        have HB3 := Lib.hid (hb2.own hgr3 n3)
        have HG3 := Lib.hid (hg2.own hgr3 hge (Nat.le_refl _))
        clear hown3 hgr3 hat3 hb2 hg2 hown2 hr2
        go_roundg (T.labels.length - (k + 1))
        case measure => rw [HGK.out]; omega
        case rel => exact ⟨k + 1, by omega, by omega, by go_num, by rw [HES.out, List.map_append]; exact HO3.out, HB3.out, by rw [HES.out, List.length_append]; omega, HG3.out⟩
      · have hkn : k = T.labels.length := by omega
        subst hkn
        rw [List.take_length] at hown hxl
        obtain ⟨Ar, cr, hvr, hlr, hcr, hrr⟩ := own_runsL hown (HTB.out.okruns)
        subst hvr
        have HF := Lib.hid (fun w9 (g9 : Grew wr w9) => free_val (A := Ar) (c := cr) (w := w9) rfl (by omega) (hrr.hold g9) (ttS T.tracks) T.tracks (ttS_i64 _).1 (ttS_i64 _).2 htr0 htr1 _ HFR.out)
        have hS : (fun w' : World => w'.cell? ⟨w.heap.size, 1, none⟩ = some (.int .i64 T.tracks)) wr.drew := hb.drew.cell 1
        clear hown hrr hb hg hlt
        go_wp2_with fail
        refine wp_region_R [] (fun w' : World => w'.cell? ⟨w.heap.size, 1, none⟩ = some (.int .i64 T.tracks)) (by kernel_rfl) ?_
        refine wpAnyR_takeQ (i := 0) (v := ?_) (some 21) rfl rfl (by kernel_rfl) (by kernel_rfl) (by kernel_rfl) (by kernel_rfl) (fun _ _ _ h => h) (Or.inl ⟨by rfl, ?_⟩) ?_
        rotate_left
        focus (intro wS hSw; (try dsimp only at hSw); go_simp; (try with_reducible rfl); (try (first | (rw [if_pos (by omega)]; (try go_simp); (try with_reducible rfl)) | (rw [if_neg (by omega)]; (try go_simp); (try with_reducible rfl)))))
        try simp only [Act.put, zA, zB, zC]
        refine wpAnyR_take (i := 1) (v := ?_) [2, 6, 7] (some 22) rfl rfl (by kernel_rfl) (by kernel_rfl) (by kernel_rfl) (by kernel_rfl) (by kernel_rfl) (by kernel_rfl) (by kernel_rfl) (fun _ _ _ h => h) (Or.inl ⟨by rfl, ?_⟩) hS ?_
        rotate_left
        focus (intro wS hSw; (try dsimp only at hSw); go_simp; (try with_reducible rfl); (try (first | (rw [if_pos (by omega)]; (try go_simp); (try with_reducible rfl)) | (rw [if_neg (by omega)]; (try go_simp); (try with_reducible rfl)))))
        try simp only [Act.put, zA, zB, zC]
        refine wpAnyR_takeQ (i := 3) (v := ?_) (some 24) rfl rfl (by kernel_rfl) (by kernel_rfl) (by kernel_rfl) (by kernel_rfl) (fun _ _ _ h => h) (Or.inl ⟨by rfl, ?_⟩) ?_
        rotate_left
        focus (intro wS hSw; (try dsimp only at hSw); go_simp; (try with_reducible rfl); (try (first | (rw [if_pos (by omega)]; (try go_simp); (try with_reducible rfl)) | (rw [if_neg (by omega)]; (try go_simp); (try with_reducible rfl)))))
        try simp only [Act.put, zA, zB, zC]
        refine wpAnyR_take (i := 4) (v := ?_) [6, 7] (some 25) rfl rfl (by kernel_rfl) (by kernel_rfl) (by kernel_rfl) (by kernel_rfl) (by kernel_rfl) (by kernel_rfl) (by kernel_rfl) (fun _ _ _ h => h) (Or.inl ⟨by rfl, ?_⟩) hS ?_
        rotate_left
        focus (intro wS hSw; (try dsimp only at hSw); go_simp; (try with_reducible rfl); (try (first | (rw [if_pos (by omega)]; (try go_simp); (try with_reducible rfl)) | (rw [if_neg (by omega)]; (try go_simp); (try with_reducible rfl)))))
        try simp only [Act.put, zA, zB, zC]
        refine wpAnyR_takeQ (i := 5) (v := ?_) (some 26) rfl rfl (by kernel_rfl) (by kernel_rfl) (by kernel_rfl) (by kernel_rfl) (fun _ _ _ h => h) (Or.inl ⟨by rfl, ?_⟩) ?_
        rotate_left
        focus (intro wS hSw; (try dsimp only at hSw); go_simp; (try with_reducible rfl); (try (first | (rw [if_pos (by omega)]; (try go_simp); (try with_reducible rfl)) | (rw [if_neg (by omega)]; (try go_simp); (try with_reducible rfl)))))
        try simp only [Act.put, zA, zB, zC]
        refine wpAnyR_n1 (i := 2) rfl (by kernel_rfl) ?_
        intro K' hK
        rw [if_pos (by rfl)]
        simp only [List.getElem_toArray, List.getElem_cons_succ, List.getElem_cons_zero]
        go_wp2_with fail
        refine (table_any _ _).mono ?_
        rintro e w8 ⟨rfl, rfl⟩
        go_wp2_with fail
        refine hK.out _ _ (.inr (fun h => h)) ?_
        clear hK
        refine wpAnyR_n1 (i := 6) rfl (by kernel_rfl) ?_
        intro K' hK
        rw [if_pos (by rfl)]
        simp only [List.getElem_toArray, List.getElem_cons_succ, List.getElem_cons_zero]
        go_wp2_with fail
        refine (HF.out _ (Grew.refl wr).drew).mono ?_
        rintro e w9 ⟨A9, c9, rfl, hr9, g9⟩
        have HR9 := Lib.hid hr9
        clear hr9
        go_wp2_with fail
        refine hK.out _ _ (.inr (fun h => (HB.out.drew.grew g9).cell 1)) ?_
        clear hK
        refine wpAnyR_takeQ (i := 7) (v := ?_) (some 2) rfl rfl (by kernel_rfl) (by kernel_rfl) (by kernel_rfl) (by kernel_rfl) (fun _ _ _ h => h) (Or.inl ⟨by rfl, ?_⟩) ?_
        rotate_left
        focus (intro wS hSw; (try dsimp only at hSw); go_simp; (try with_reducible rfl); (try (first | (rw [if_pos (by omega)]; (try go_simp); (try with_reducible rfl)) | (rw [if_neg (by omega)]; (try go_simp); (try with_reducible rfl)))))
        try simp only [Act.put, zA, zB, zC]
        refine wpAnyR_done (by kernel_rfl) ?_ _
        go_wp2_with fail
        go_ret
        exact ⟨A9, c9, rfl, HR9.out, HG.out.drew.trans g9⟩
def fndT (T : Tab) (id unit : Int) : Lab × Bool := if 0 ≤ idxT T id unit then (T.labels.getD (idxT T id unit).toNat labZ, true) else (labZ, false)
theorem fndT_cases (T : Tab) (id unit : Int) : (∃ (k : Nat) (hk : k < T.labels.length), idxT T id unit = (k : Int) ∧ fndT T id unit = (T.labels[k], true) ∧ hitL id unit T.labels[k] = true) ∨ (idxT T id unit = -1 ∧ fndT T id unit = (labZ, false) ∧ ∀ l ∈ T.labels, hitL id unit l = false) := by
  rcases idxP_cases (hitL id unit) T.labels with ⟨k, hk, h1, h2, _⟩ | ⟨h1, h2⟩
  · have h1' : idxT T id unit = (k : Int) := h1
    refine .inl ⟨k, hk, h1', ?_, h2⟩
    unfold fndT
    rw [h1', if_pos (by omega), Int.toNat_natCast, List.getD_eq_getElem?_getD, List.getElem?_eq_getElem hk]
    rfl
  · have h1' : idxT T id unit = -1 := h1
    refine .inr ⟨h1', ?_, h2⟩
    unfold fndT
    rw [h1', if_neg (by omega)]
set_option maxRecDepth 100000 in
set_option maxHeartbeats 4000000 in
theorem find_tab (A : Option Addr) (c : Nat) (xs : List LabE) (T : Tab) (w : World) (h : TabAt w A c xs T) (hs : SmallT T) (n : Nat) (hn : n = T.labels.length) (id unit : Int) (l : Lab) (ok : Bool) (hf : fndT T id unit = (l, ok)) :
    Calls Tryz.prog 8 #[.agg #[.string T.name, .int .i64 T.tracks, .slice A n c], .agg #[.int .i64 id, .int .i64 unit]] w fun e w' => ∃ B d, e = .returned (.tuple #[.agg #[.int .i64 l.id, .int .i64 l.unit, .string l.name, .string l.note, .slice B l.ext.length d], .bool ok]) ∧ LabAt w' B d l ∧ Grew w w' := by
  subst hn
  have hg0 := (((Grew.refl w).alloc (.cells #[.string T.name, .int .i64 T.tracks, .slice A T.labels.length c] 24)).alloc (.cells #[.int .i64 id, .int .i64 unit] 26)).alloc (.cells #[.int .i64 0, .int .i64 0, .string ⟨#[]⟩, .string ⟨#[]⟩, .slice none 0 0] 31)
  have hb0 := ((Blk.new w 24 #[.string T.name, .int .i64 T.tracks, .slice A T.labels.length c] rfl).alloc (.cells #[.int .i64 id, .int .i64 unit] 26)).alloc (.cells #[.int .i64 0, .int .i64 0, .string ⟨#[]⟩, .string ⟨#[]⟩, .slice none 0 0] 31)
  have hz0 := Blk.new ((w.alloc (.cells #[.string T.name, .int .i64 T.tracks, .slice A T.labels.length c] 24)).alloc (.cells #[.int .i64 id, .int .i64 unit] 26)) 31 #[.int .i64 0, .int .i64 0, .string ⟨#[]⟩, .string ⟨#[]⟩, .slice none 0 0] (n := w.heap.size + 1 + 1) (by simp)
  have HC := Lib.hid (fun k hk => cindex_any A c xs T id unit _ (h.hold hg0) hs _ rfl k hk)
  have HTB := Lib.hid h
  have HS := Lib.hid hs
  have HG0 := Lib.hid hg0
  have HB0 := Lib.hid hb0
  have HZ0 := Lib.hid hz0
  clear h hs hg0 hb0 hz0
  rcases fndT_cases T id unit with ⟨k, hk, h1, h2, _⟩ | ⟨h1, h2, _⟩
  · rw [h2] at hf
    injection hf with hf1 hf2
    subst hf2
    have HI := Lib.hid (HC.out _ h1)
    have HF1 := Lib.hid hf1
    have hle := HS.out.ext T.labels[k] (List.getElem_mem hk)
    rw [hf1] at hle
    clear HC h1 h2 hf1
    go_enter Tryz.func8, Tryz.ntmps8
    go_wp2_with fail
    refine HI.out.mono ?_
    rintro e w1 ⟨rfl, g1⟩
    have hb1 := HB0.out.grew g1
    have hg1 := HG0.out.trans g1
    have hz1 := HZ0.out.grew g1
    have x2 := hb1.cell 2
    have hl1 := hb1.lt
    have hl2 := hz1.lt
    have hkn : (k : Int) < (T.labels.length : Int) := by omega
    obtain ⟨b, off, B, d, l', rfl, hbl, hxk, hv, hla, c0, c1, c2, c3, c4⟩ := (HTB.out.hold hg1).at_ hk
    rw [HF1.out] at hv
    subst hv
    have hgl : Grew w1 (w1.alloc (.cells #[.int .i64 l.id, .int .i64 l.unit, .string l.name, .string l.note, .slice B l.ext.length d] 31)) := (Grew.refl w1).alloc _
    have HCL := Lib.hid (clone_runs B d l.ext.length l.ext _ rfl (by omega) (hla.hold hgl).runs.2)
    have HLA := Lib.hid (hla.hold hgl)
    have HNB := Lib.hid (Blk.new w1 31 #[.int .i64 l.id, .int .i64 l.unit, .string l.name, .string l.note, .slice B l.ext.length d] rfl)
    have HG1 := Lib.hid (hg1.trans hgl)
    have HZ1 := Lib.hid (hz1.grew hgl)
    clear g1 hb1 hg1 hz1 hla hgl hxk
    go_wp2_with fail
    refine HCL.out.mono ?_
    rintro e w2 ⟨v2, rfl, hown2, g2⟩
    obtain ⟨A2, c2', rfl, hl2c, hc2, hr2⟩ := own_runsL hown2 HLA.out.runs.1
    have hnb := HNB.out.grew g2
    have hzb := HZ1.out.grew g2
    have hg2 := HG1.out.trans g2
    have y0 := hnb.cell 0
    have y1 := hnb.cell 1
    have y2 := hnb.cell 2
    have y3 := hnb.cell 3
    have y4 := hnb.cell 4
    have yf := hnb.frozen 4
    have hnl := hnb.lt
    have z0 := hzb.cell 0
    have z1 := hzb.cell 1
    have z2 := hzb.cell 2
    have z3 := hzb.cell 3
    have z4 := hzb.cell 4
    have f0 := hzb.frozen 0
    have f1 := hzb.frozen 1
    have f2 := hzb.frozen 2
    have f3 := hzb.frozen 3
    have f4 := hzb.frozen 4
    have hzl := hzb.lt
    have hz9 := hg2.size
    have hz8 : w.heap.size + 1 + 1 < w1.heap.size := hl2
    have HL2 := Lib.hid (show LabAt w2 A2 c2' l from ⟨HLA.out.id0, HLA.out.id1, HLA.out.unit0, HLA.out.unit1, HLA.out.name, HLA.out.note, hr2, hl2c, hc2⟩)
    have HGG := Lib.hid hg2
    have HFA := Lib.hid (show ∀ b off, A2 = some ⟨b, off, none⟩ → w1.heap.size + 1 ≤ b from fun b off e => by have := (hown2.own_ge (by rw [e]; rfl)).1; simpa using this)
    clear hown2 hr2 hnb hzb g2 hg2 c0 c1 c2 c3 c4 x2
    go_wp2_with fail
    refine bodyPost_ret (by first | (simp [*, results, Tryz.results8, go_sem]; rfl) | simp [*, results, Tryz.results8, go_sem]) rfl ?_
    exact ⟨_, _, rfl, HL2.out.turned (S := fun k => k < w1.heap.size + 1) (by (repeat' first | (with_reducible exact Turned.refl _ _) | (with_reducible assumption) | (with_reducible refine Turned.alloc ?_ _) | (with_reducible refine Turned.drew ?_) | (with_reducible refine Turned.drewN ?_ _) | (with_reducible refine Turned.setRow ?_ (by first | (simp; done) | (simp; omega) | omega) _) | (with_reducible refine Turned.setCell ?_ (by first | (simp; done) | (simp; omega) | omega) _) | ((with_reducible apply Turned.andGrew); rotate_left; (with_reducible assumption)) | ((with_reducible apply Turned.trans); rotate_left; (with_reducible assumption)) | fail)) (fun _ b off e => by have := HFA.out b off e; omega), by have hg := HGG.out; (repeat' first | (with_reducible exact Grew.refl _) | (with_reducible assumption) | (with_reducible refine Grew.alloc ?_ _) | (with_reducible refine Grew.drew ?_) | (with_reducible refine Grew.drewN ?_ _) | (with_reducible refine Grew.setRow ?_ (by first | (simp; done) | (simp; omega) | omega) _) | (with_reducible refine Grew.setCell ?_ (by first | (simp; done) | (simp; omega) | omega) _) | ((with_reducible apply Grew.trans); rotate_left; (with_reducible assumption)) | ((with_reducible apply Grew.turn); rotate_left; (with_reducible assumption); (focus (intro i hi; first | omega | (simp at hi; omega)))) | fail)⟩
  · rw [h2] at hf
    injection hf with hf1 hf2
    subst hf2; subst hf1
    have HI := Lib.hid (HC.out _ h1)
    clear HC h1 h2
    go_enter Tryz.func8, Tryz.ntmps8
    go_wp2_with fail
    refine HI.out.mono ?_
    rintro e w1 ⟨rfl, g1⟩
    have hzb := HZ0.out.grew g1
    have z0 := hzb.cell 0
    have z1 := hzb.cell 1
    have z2 := hzb.cell 2
    have z3 := hzb.cell 3
    have z4 := hzb.cell 4
    have f0 := hzb.frozen 0
    have f1 := hzb.frozen 1
    have f2 := hzb.frozen 2
    have f3 := hzb.frozen 3
    have f4 := hzb.frozen 4
    have hzl := hzb.lt
    have hg1 := HG0.out.trans g1
    clear hzb g1
    go_wp2_with fail
    refine bodyPost_ret (by first | (simp [*, results, Tryz.results8, go_sem]; rfl) | simp [*, results, Tryz.results8, go_sem]) rfl ?_
    exact ⟨none, 0, rfl, LabAt.zero _, by (repeat' first | (with_reducible exact Grew.refl _) | (with_reducible assumption) | (with_reducible refine Grew.alloc ?_ _) | (with_reducible refine Grew.drew ?_) | (with_reducible refine Grew.drewN ?_ _) | (with_reducible refine Grew.setRow ?_ (by first | (simp; done) | (simp; omega) | omega) _) | (with_reducible refine Grew.setCell ?_ (by first | (simp; done) | (simp; omega) | omega) _) | ((with_reducible apply Grew.trans); rotate_left; (with_reducible assumption)) | ((with_reducible apply Grew.turn); rotate_left; (with_reducible assumption); (focus (intro i hi; first | omega | (simp at hi; omega)))) | fail)⟩
def newT (s : ByteArray) (t : Int) : Tab × Int := if okT t = true ∧ nameOk s = true then (⟨s, t, List.replicate (slotsS t).toNat labZ⟩, 0) else (tabZ, 1)
theorem slots_nat (t : Int) : ((slotsS t).toNat : Int) = slotsS t ∧ (slotsS t).toNat ≤ 31 := by
  have := ttS_bd t
  unfold slotsS
  omega
theorem made_labs (w : World) (n : Nat) (hn : n ≤ 1000) : (Instr.makeSlice 22 (.int .i64 (n : Int)) (.int .i64 (n : Int))).run Tryz.prog w = .ok (.slice (some ⟨w.heap.size, 0, none⟩) n n) (w.alloc (.cells (madeCells #[.int .i64 0, .int .i64 0, .string ⟨#[]⟩, .string ⟨#[]⟩, .slice none 0 0] (n * 5)) 31)) := by
  obtain ⟨i, hi, hz0, hz1, hz2⟩ : ∃ i, Tryz.prog.info? 31 = some i ∧ i.zero = some (.agg #[.int .i64 0, .int .i64 0, .string ⟨#[]⟩, .string ⟨#[]⟩, .slice none 0 0]) ∧ i.size = 5 ∧ i.bytes = 72 := by
    have h := info_lab
    cases hq : Tryz.prog.info? 31 with
    | none => rw [hq] at h; cases h
    | some i => rw [hq] at h; simp at h; exact ⟨i, rfl, h.1, h.2.1, h.2.2⟩
  have h := run_make (P := Tryz.prog) w 22 31 i _ Tryz.underlying22 hi hz0 .i64 .i64 (n : Int) (n : Int) (by omega) (by omega) (by rw [hz2]; omega) (by omega)
  rw [hz1] at h
  simp only [Int.toNat_natCast] at h
  exact h
theorem made_tab (w : World) (n : Nat) (s : ByteArray) (t : Int) (hs : s.size ≤ 9223372036854775807) (t0 : -9223372036854775808 ≤ t) (t1 : t ≤ 9223372036854775807) (hn : n ≤ 1000) {g : Nat} (hgw : g = w.heap.size) {w' : World} (hw : Grew (w.alloc (.cells (madeCells #[.int .i64 0, .int .i64 0, .string ⟨#[]⟩, .string ⟨#[]⟩, .slice none 0 0] (n * 5)) 31)) w') :
    TabAt w' (some ⟨g, 0, none⟩) n (List.replicate n ⟨none, 0, labZ⟩) ⟨s, t, List.replicate n labZ⟩ := by
  subst hgw
  refine TabAt.hold ?_ hw
  refine ⟨fun x hx => by rw [List.eq_of_mem_replicate hx]; exact LabAt.zero _, fun h0 => ⟨w.heap.size, 0, rfl, by simp, fun j cs hj i v hi => ?_⟩, by simp, by omega, by simp, t0, t1, hs⟩
  rw [List.map_replicate, List.getElem?_replicate] at hj
  split at hj
  · rename_i hjn
    injection hj with hj
    subst hj
    have hi5 : i < 5 := (List.getElem?_eq_some_iff.1 hi).1
    rw [(Blk.new w 31 _ rfl).cell]
    unfold madeCells
    rw [Nat.zero_add, Array.getElem?_map, Array.getElem?_range, if_pos (by omega)]
    simp only [Option.map_some]
    have hm : (j * 5 + i) % 5 = i := by omega
    have h5 : (#[Value.int .i64 0, .int .i64 0, .string ⟨#[]⟩, .string ⟨#[]⟩, .slice none 0 0] : Array Value).size = 5 := rfl
    rw [h5, hm]
    match i, hi5 with
    | 0, _ => exact hi
    | 1, _ => exact hi
    | 2, _ => exact hi
    | 3, _ => exact hi
    | 4, _ => exact hi
  · cases hj
set_option maxRecDepth 100000 in
set_option maxHeartbeats 4000000 in
theorem new_tab (s : ByteArray) (t : Int) (w : World) (hs : s.size ≤ 9223372036854775807) (t0 : -9223372036854775808 ≤ t) (t1 : t ≤ 9223372036854775807) (T : Tab) (er : Int) (hT : newT s t = (T, er)) :
    Calls Tryz.prog 24 #[.string s, .int .i64 t] w fun e w' => ∃ A c xs, e = .returned (.tuple #[.agg #[.string T.name, .int .i64 T.tracks, .slice A T.labels.length c], .int .i64 er]) ∧ TabAt w' A c xs T ∧ Grew w w' := by
  have hz0 := Blk.new w 24 #[.string ⟨#[]⟩, .int .i64 0, .slice none 0 0] rfl
  have hG := (Grew.refl w).alloc (.cells #[.string ⟨#[]⟩, .int .i64 0, .slice none 0 0] 24)
  have z0 := hz0.cell 0
  have z1 := hz0.cell 1
  have z2 := hz0.cell 2
  have f0 := hz0.frozen 0
  have f1 := hz0.frozen 1
  have f2 := hz0.frozen 2
  by_cases ho : okT t = true
  rotate_left
  · unfold newT at hT
    rw [if_neg (fun h => ho h.1)] at hT
    injection hT with h1 h2
    subst h1; subst h2
    have HT0 := Lib.hid (show ttS t = 0 from by unfold ttS; rw [if_neg ho])
    clear ho
    go_enter Tryz.func24, Tryz.ntmps24
    go_wp2_with fail
    refine (table_any _ _).mono ?_
    rintro e w1 ⟨rfl, rfl⟩
    rw [HT0.out]
    go_wp2_with fail
    refine bodyPost_ret (by first | (simp [*, results, Tryz.results24, go_sem]; rfl) | simp [*, results, Tryz.results24, go_sem]) rfl ?_
    exact ⟨none, 0, [], rfl, TabAt.zero _, by (repeat' first | (with_reducible exact Grew.refl _) | (with_reducible assumption) | (with_reducible refine Grew.alloc ?_ _) | (with_reducible refine Grew.drew ?_) | (with_reducible refine Grew.drewN ?_ _) | (with_reducible refine Grew.setRow ?_ (by first | (simp; done) | (simp; omega) | omega) _) | (with_reducible refine Grew.setCell ?_ (by first | (simp; done) | (simp; omega) | omega) _) | ((with_reducible apply Grew.trans); rotate_left; (with_reducible assumption)) | ((with_reducible apply Grew.turn); rotate_left; (with_reducible assumption); (focus (intro i hi; first | omega | (simp at hi; omega)))) | fail)⟩
  obtain ⟨tt, htt⟩ : ∃ tt, ttS t = tt := ⟨_, rfl⟩
  have HT0 := Lib.hid htt
  have hz : (tt == 0) = false := by
    rw [beq_eq_false_iff_ne, ← htt]
    unfold ttS
    have := okT_true ho
    rw [if_pos ho]
    omega
  clear htt
  cases hn : nameOk s with
  | false =>
    unfold newT at hT
    rw [if_neg (fun h => by rw [hn] at h; cases h.2)] at hT
    injection hT with h1 h2
    subst h1; subst h2
    have HN := Lib.hid hn
    clear ho hn
    go_enter Tryz.func24, Tryz.ntmps24
    go_wp2_with fail
    refine (table_any _ _).mono ?_
    rintro e w1 ⟨rfl, rfl⟩
    rw [HT0.out]
    go_wp2_with fail
    refine (validName_any _ _ hs).mono ?_
    rintro e w1 ⟨rfl, rfl⟩
    rw [HN.out]
    go_wp2_with fail
    refine bodyPost_ret (by first | (simp [*, results, Tryz.results24, go_sem]; rfl) | simp [*, results, Tryz.results24, go_sem]) rfl ?_
    exact ⟨none, 0, [], rfl, TabAt.zero _, by (repeat' first | (with_reducible exact Grew.refl _) | (with_reducible assumption) | (with_reducible refine Grew.alloc ?_ _) | (with_reducible refine Grew.drew ?_) | (with_reducible refine Grew.drewN ?_ _) | (with_reducible refine Grew.setRow ?_ (by first | (simp; done) | (simp; omega) | omega) _) | (with_reducible refine Grew.setCell ?_ (by first | (simp; done) | (simp; omega) | omega) _) | ((with_reducible apply Grew.trans); rotate_left; (with_reducible assumption)) | ((with_reducible apply Grew.turn); rotate_left; (with_reducible assumption); (focus (intro i hi; first | omega | (simp at hi; omega)))) | fail)⟩
  | true =>
    unfold newT at hT
    rw [if_pos ⟨ho, hn⟩] at hT
    injection hT with h1 h2
    subst h1; subst h2
    obtain ⟨h1, h2⟩ := slots_nat t
    have HN := Lib.hid hn
    generalize (slotsS t).toNat = m at *
    have HSL := Lib.hid h1.symm
    have hmk := fun w => made_labs w m (by omega)
    have hml : (List.replicate m labZ).length = m := List.length_replicate
    have HMT := Lib.hid (fun w0 g hg => made_tab w0 m s t hs t0 t1 (by omega) (g := g) hg (Grew.refl _))
    have HML := Lib.hid hml
    clear ho hn h1 hml
    go_enter Tryz.func24, Tryz.ntmps24
    go_wp2_with fail
    refine (table_any _ _).mono ?_
    rintro e w1 ⟨rfl, rfl⟩
    rw [HT0.out]
    go_wp2_with fail
    refine (validName_any _ _ hs).mono ?_
    rintro e w1 ⟨rfl, rfl⟩
    rw [HN.out]
    go_wp2_with fail
    refine (slots_any _ _).mono ?_
    rintro e w1 ⟨rfl, rfl⟩
    rw [HSL.out]
    go_wp2_with fail
    refine bodyPost_ret (by first | (simp [*, results, Tryz.results24, go_sem]; rfl) | simp [*, results, Tryz.results24, go_sem]) rfl ?_
    exact ⟨_, _, _, by rw [HML.out], HMT.out _ _ (by simp), by (repeat' first | (with_reducible exact Grew.refl _) | (with_reducible assumption) | (with_reducible refine Grew.alloc ?_ _) | (with_reducible refine Grew.drew ?_) | (with_reducible refine Grew.drewN ?_ _) | (with_reducible refine Grew.setRow ?_ (by first | (simp; done) | (simp; omega) | omega) _) | (with_reducible refine Grew.setCell ?_ (by first | (simp; done) | (simp; omega) | omega) _) | ((with_reducible apply Grew.trans); rotate_left; (with_reducible assumption)) | ((with_reducible apply Grew.turn); rotate_left; (with_reducible assumption); (focus (intro i hi; first | omega | (simp at hi; omega)))) | fail)⟩
end Go.Proofs.YtnlaogneceanoaaGreat
namespace Go.Proofs.YtnlaogneceanoaaGreat
set_option linter.unusedVariables false
set_option linter.unusedSimpArgs false
set_option linter.unusedSectionVars false
open Go.RowKit
attribute [local go_sem ↓] Go.wp_at_zero Go.wp_at_succ
set_option maxRecDepth 100000 in
set_option maxHeartbeats 1000000 in
theorem rempty_any (B : Option Addr) (d : Nat) (l : Lab) (w : World) (h : LabAt w B d l) (hl : l.ext.length ≤ 1000) :
    Calls Tryz.prog 50 #[.agg #[.int .i64 l.id, .int .i64 l.unit, .string l.name, .string l.note, .slice B l.ext.length d]] w fun e w' => e = .returned (.bool (emL l)) ∧ Grew w w' := by
  have g0 := (Grew.refl w).alloc (.cells #[.int .i64 l.id, .int .i64 l.unit, .string l.name, .string l.note, .slice B l.ext.length d] 31)
  have HC := Lib.hid (requalZ_any B d l _ (h.hold g0) (by omega))
  have HG := Lib.hid g0
  have HE := Lib.hid (show emL l = eqL l labZ from rfl)
  clear h g0
  go_enter Tryz.func50, Tryz.ntmps50
  go_wp2_with fail
  refine HC.out.mono ?_
  rintro e w1 ⟨rfl, g1⟩
  go_wp2_with fail
  go_ret
  exact ⟨ret_bool (by rw [HE.out]), HG.out.trans g1⟩
/-- Two labels that a table must not have both. -/
def clash (m l : Lab) : Bool := (m.id == l.id) && ((m.unit == 0) == (l.unit == 0))
theorem clash_key (t : Int) (m l : Lab) (hm : okL t m = true) (hl : okL t l = true) (hle : emL l = false) (h : clash m l = true) : emL m = false ∧ keyL m = keyL l := by
  unfold clash at h
  simp only [Bool.and_eq_true, beq_iff_eq] at h
  obtain ⟨h1, h2⟩ := h
  have hu1 := (okL_ext m t hm).2
  have hu2 := (okL_ext l t hl).2
  have hlv : validL l t = true := by
    unfold okL at hl
    rw [hle] at hl
    simpa using hl
  have hid := (validL_ids l t hlv).1
  refine ⟨?_, ?_⟩
  · cases he : emL m with
    | false => rfl
    | true =>
      rw [(emL_iff m).1 he] at h1
      have : l.id = 0 := h1.symm
      omega
  · unfold keyL
    rw [h1]
    congr 1
    rw [decide_eq_decide]
    rcases Int.lt_or_eq_of_le hu1 with e1 | e1
    · rcases Int.lt_or_eq_of_le hu2 with e2 | e2
      · omega
      · rw [← e2] at h2
        simp at h2
        omega
    · rw [← e1] at h2
      simp at h2
      omega
theorem key_clash (t : Int) (m l : Lab) (hm : okL t m = true) (hl : okL t l = true) (h : keyL m = keyL l) : clash m l = true := by
  unfold keyL at h
  injection h with h1 h2
  have hu1 := (okL_ext m t hm).2
  have hu2 := (okL_ext l t hl).2
  rw [decide_eq_decide] at h2
  unfold clash
  rw [h1]
  simp only [beq_self_eq_true, Bool.true_and, beq_iff_eq]
  cases h3 : (m.unit == 0) <;> cases h4 : (l.unit == 0) <;> simp at h3 h4 ⊢ <;> omega
theorem keys_mem (ls : List Lab) (k : Nat) (a : Int × Bool) (h : a ∈ keysL (ls.take k)) : ∃ (j : Nat) (hj : j < ls.length), j < k ∧ emL ls[j] = false ∧ keyL ls[j] = a := by
  unfold keysL at h
  obtain ⟨l, hl, rfl⟩ := List.mem_map.1 h
  obtain ⟨h1, h2⟩ := List.mem_filter.1 hl
  obtain ⟨j, hj, rfl⟩ := List.getElem_of_mem h1
  have hj2 : j < k ∧ j < ls.length := by rw [List.length_take] at hj; omega
  refine ⟨j, hj2.2, hj2.1, ?_, ?_⟩
  · rw [List.getElem_take] at h2; simpa using h2
  · rw [List.getElem_take]
theorem keys_in (ls : List Lab) (k j : Nat) (hj : j < ls.length) (hjk : j < k) (he : emL ls[j] = false) : keyL ls[j] ∈ keysL (ls.take k) := by
  unfold keysL
  refine List.mem_map_of_mem (List.mem_filter.2 ⟨?_, by rw [he]; rfl⟩)
  exact List.mem_take_iff_getElem.2 ⟨j, by omega, rfl⟩
set_option maxRecDepth 100000 in
set_option maxHeartbeats 8000000 in
theorem used_tab (A : Option Addr) (c : Nat) (xs : List LabE) (T : Tab) (w : World) (h : TabAt w A c xs T) (hs : T.labels.length ≤ 1000 ∧ ∀ l ∈ T.labels, l.ext.length ≤ 16) :
    Calls Tryz.prog 53 #[.agg #[.string T.name, .int .i64 T.tracks, .slice A T.labels.length c]] w fun e w' => ∃ A1 c1, e = .returned (.slice A1 (extsL T.labels).length c1) ∧ RunsAt w' w'.heap.size A1 (extsL T.labels) ∧ Grew w w' := by
  obtain ⟨hlen, hex⟩ := hs
  have HTB := Lib.hid h
  have HEX := Lib.hid hex
  have hg0 := ((Grew.refl w).alloc (.cells #[.string T.name, .int .i64 T.tracks, .slice A T.labels.length c] 24)).alloc (.cells #[] 65)
  have hb0 := (Blk.new w 24 #[.string T.name, .int .i64 T.tracks, .slice A T.labels.length c] rfl).alloc (.cells #[] 65)
  have ho0 : OwnL ((w.alloc (.cells #[.string T.name, .int .i64 T.tracks, .slice A T.labels.length c] 24)).alloc (.cells #[] 65)) w.heap.size 65 2 (.slice (some ⟨w.heap.size + 1, 0, none⟩) 0 0) [] := OwnL.empty _ _ _ _ (by simp) (by simp)
  clear h hex
  go_enter Tryz.func53, Tryz.ntmps53
  go_wp2_with fail
  go_loopg [3, 4] T.labels.length (fun gk ov i wr => ∃ k : Nat, k ≤ T.labels.length ∧ gk = T.labels.length - k ∧ i = .int .i64 k ∧ OwnL wr w.heap.size 65 2 ov ((extsL (T.labels.take k)).map runC) ∧ Blk wr w.heap.size 24 #[.string T.name, .int .i64 T.tracks, .slice A T.labels.length c] ∧ (extsL (T.labels.take k)).length ≤ 16 * k ∧ Grew w wr)
  case atStart => exact ⟨0, by omega, by omega, rfl, ho0, hb0, by simp [extsL], hg0⟩
  case round =>
    obtain ⟨k, hk, hgk, rfl, hown, hb, hxl, hg⟩ := hrel
    have HGK := Lib.hid hgk
    have hgs := hg.size
    have x2 := hb.cell 2
    have hbl0 := hb.lt
    clear hgk hb0 hg0 ho0
    by_cases hlt : k < T.labels.length
    · obtain ⟨b, off, B, d, l, rfl, hbl, hxk, hv, hla, c0, c1, c2, c3, c4⟩ := (HTB.out.hold hg).at_ hlt
      have hle := HEX.out T.labels[k] (List.getElem_mem hlt)
      rw [hv] at hle
      have hes := extsL_snoc T.labels k hlt
      rw [hv] at hes
      have HES := Lib.hid hes
      have hr2 := hla.runs.2
      have hge := hown.row_ge
      have n3 := hown.ne_blk hb (by decide)
      have HG := Lib.hid hg
      have HB := Lib.hid hb
      clear hv hxk hla hes hb hg
      go_wp2_with (at_builtin; refine wpList_pushAll (by rfl) _ _ 29 rfl w.heap.size 65 2 16 _ Tryz.underlying29 info_run rfl (by decide) _ _ (l.ext.map runC) (by rfl) hown B l.ext.length _ (by rfl) (by rw [List.length_map]) (map_one_len _) hr2 (map_one_one _) (by rw [List.length_map]; omega) (by rw [List.length_map]; omega) hgs ?_; intro v1 w3 hown3 hgr3 hat3)
      have HO3 := Lib.hid hown3
      have HB3 := Lib.hid (HB.out.own hgr3 n3)
      have HG3 := Lib.hid (HG.out.own hgr3 hge (Nat.le_refl _))
      clear hown3 hgr3 hat3 hown hr2 n3 hge
      go_roundg (T.labels.length - (k + 1))
      case measure => rw [HGK.out]; omega
      case rel => exact ⟨k + 1, by omega, by omega, by go_num, by rw [HES.out, List.map_append]; exact HO3.out, HB3.out, by rw [HES.out, List.length_append]; omega, HG3.out⟩
    · have hkn : k = T.labels.length := by omega
      subst hkn
      rw [List.take_length] at hown hxl
      obtain ⟨Ar, cr, hvr, hlr, hcr, hrr⟩ := own_runsL hown (HTB.out.okruns)
      subst hvr
      have HR := Lib.hid hrr
      have HG := Lib.hid hg
      clear hown hrr hb hg
      go_wp2_with fail
      go_ret
      exact ⟨_, _, rfl, HR.out, HG.out⟩
set_option maxRecDepth 100000 in
set_option maxHeartbeats 16000000 in
theorem rvalid_tab (A : Option Addr) (c : Nat) (xs : List LabE) (T : Tab) (w : World) (h : TabAt w A c xs T) (hs : SmallT T) (n : Nat) (hn : n = T.labels.length) :
    Calls Tryz.prog 11 #[.agg #[.string T.name, .int .i64 T.tracks, .slice A n c]] w fun e w' => e = .returned (.bool (validT T)) ∧ Grew w w' := by
  subst hn
  have hnm := h.name
  have hlen := hs.len
  have ht0 := h.tr0
  have ht1 := h.tr1
  have HG0 := Lib.hid ((Grew.refl w).alloc (.cells #[.string T.name, .int .i64 T.tracks, .slice A T.labels.length c] 24))
  have HB0 := Lib.hid (Blk.new w 24 #[.string T.name, .int .i64 T.tracks, .slice A T.labels.length c] rfl)
  have HTB := Lib.hid h
  have HS := Lib.hid hs
  clear h hs
  cases hn : nameOk T.name with
  | false =>
    have HN := Lib.hid hn
    have HE := Lib.hid (validT_false_head T (by unfold headB; rw [hn]; simp))
    clear hn
    go_enter Tryz.func11, Tryz.ntmps11
    go_wp2_with fail
    refine wp_region_R [] (fun w' : World => w'.cell? ⟨w.heap.size, 0, none⟩ = some (.string T.name) ∧ w'.cell? ⟨w.heap.size, 1, none⟩ = some (.int .i64 T.tracks) ∧ w'.cell? ⟨w.heap.size, 2, none⟩ = some (.slice A T.labels.length c)) (by kernel_rfl) ?_
    have hS : (fun w' : World => w'.cell? ⟨w.heap.size, 0, none⟩ = some (.string T.name) ∧ w'.cell? ⟨w.heap.size, 1, none⟩ = some (.int .i64 T.tracks) ∧ w'.cell? ⟨w.heap.size, 2, none⟩ = some (.slice A T.labels.length c)) (w.alloc (.cells #[.string T.name, .int .i64 T.tracks, .slice A T.labels.length c] 24)).drew := ⟨HB0.out.drew.cell 0, HB0.out.drew.cell 1, HB0.out.drew.cell 2⟩
    refine wpAnyR_takeQ (i := 0) (v := ?_) (some 7) rfl rfl (by kernel_rfl) (by kernel_rfl) (by kernel_rfl) (by kernel_rfl) (fun _ _ _ h => h) (Or.inl ⟨by rfl, ?_⟩) ?_
    rotate_left
    focus (intro wS hSw; (try dsimp only at hSw); go_simp; (try with_reducible rfl); (try (first | (rw [if_pos (by omega)]; (try go_simp); (try with_reducible rfl)) | (rw [if_neg (by omega)]; (try go_simp); (try with_reducible rfl)))))
    try simp only [Act.put, zA, zB, zC]
    refine wpAnyR_take (i := 1) (v := ?_) [2, 3, 4, 5, 6, 7, 8, 9, 10, 11, 12, 13, 14, 15, 16, 17, 18] (some 8) rfl rfl (by kernel_rfl) (by kernel_rfl) (by kernel_rfl) (by kernel_rfl) (by kernel_rfl) (by kernel_rfl) (by kernel_rfl) (fun _ _ _ h => h) (Or.inl ⟨by rfl, ?_⟩) hS ?_
    rotate_left
    focus (intro wS hSw; (try dsimp only at hSw); go_simp; (try with_reducible rfl); (try (first | (rw [if_pos (by omega)]; (try go_simp); (try with_reducible rfl)) | (rw [if_neg (by omega)]; (try go_simp); (try with_reducible rfl)))))
    try simp only [Act.put, zA, zB, zC]
    refine wpAnyR_n1 (i := 2) rfl (by kernel_rfl) ?_
    intro K' hK
    rw [if_pos (by rfl)]
    simp only [List.getElem_toArray, List.getElem_cons_succ, List.getElem_cons_zero]
    go_wp2_with fail
    refine (rvalidName_any _ _ hnm).mono ?_
    rintro e w1 ⟨rfl, rfl⟩
    rw [HN.out]
    go_wp2_with fail
    refine hK.out _ _ (.inr (fun h => h)) ?_
    clear hK
    refine wpAnyR_takeQ (i := 3) (v := ?_) (some 10) rfl rfl (by kernel_rfl) (by kernel_rfl) (by kernel_rfl) (by kernel_rfl) (fun _ _ _ h => h) (Or.inl ⟨by rfl, ?_⟩) ?_
    rotate_left
    focus (intro wS hSw; (try dsimp only at hSw); go_simp; (try with_reducible rfl); (try (first | (rw [if_pos (by omega)]; (try go_simp); (try with_reducible rfl)) | (rw [if_neg (by omega)]; (try go_simp); (try with_reducible rfl)))))
    try simp only [Act.put, zA, zB, zC]
    refine wpAnyR_takeQ (i := 4) (v := ?_) (some 11) rfl rfl (by kernel_rfl) (by kernel_rfl) (by kernel_rfl) (by kernel_rfl) (fun _ _ _ h => h) (Or.inl ⟨by rfl, ?_⟩) ?_
    rotate_left
    focus (intro wS hSw; (try dsimp only at hSw); go_simp; (try with_reducible rfl); (try (first | (rw [if_pos (by omega)]; (try go_simp); (try with_reducible rfl)) | (rw [if_neg (by omega)]; (try go_simp); (try with_reducible rfl)))))
    try simp only [Act.put, zA, zB, zC]
    refine wpAnyR_takeQ (i := 5) (v := undef) (some 12) rfl rfl (by kernel_rfl) (by kernel_rfl) (by kernel_rfl) (by kernel_rfl) (fun _ _ _ h => h) (Or.inr ⟨by rfl, rfl⟩) ?_
    try simp only [Act.put, zA, zB, zC]
    refine wpAnyR_takeQ (i := 6) (v := undef) (some 13) rfl rfl (by kernel_rfl) (by kernel_rfl) (by kernel_rfl) (by kernel_rfl) (fun _ _ _ h => h) (Or.inr ⟨by rfl, rfl⟩) ?_
    try simp only [Act.put, zA, zB, zC]
    refine wpAnyR_takeQ (i := 7) (v := undef) (some 14) rfl rfl (by kernel_rfl) (by kernel_rfl) (by kernel_rfl) (by kernel_rfl) (fun _ _ _ h => h) (Or.inr ⟨by rfl, rfl⟩) ?_
    try simp only [Act.put, zA, zB, zC]
    refine wpAnyR_takeQ (i := 8) (v := undef) (some 15) rfl rfl (by kernel_rfl) (by kernel_rfl) (by kernel_rfl) (by kernel_rfl) (fun _ _ _ h => h) (Or.inr ⟨by rfl, rfl⟩) ?_
    try simp only [Act.put, zA, zB, zC]
    refine wpAnyR_takeQ (i := 9) (v := ?_) (some 16) rfl rfl (by kernel_rfl) (by kernel_rfl) (by kernel_rfl) (by kernel_rfl) (fun _ _ _ h => h) (Or.inl ⟨by rfl, ?_⟩) ?_
    rotate_left
    focus (intro wS hSw; (try dsimp only at hSw); go_simp; (try with_reducible rfl); (try (first | (rw [if_pos (by omega)]; (try go_simp); (try with_reducible rfl)) | (rw [if_neg (by omega)]; (try go_simp); (try with_reducible rfl)))))
    try simp only [Act.put, zA, zB, zC]
    refine wpAnyR_takeQ (i := 10) (v := ?_) (some 17) rfl rfl (by kernel_rfl) (by kernel_rfl) (by kernel_rfl) (by kernel_rfl) (fun _ _ _ h => h) (Or.inl ⟨by rfl, ?_⟩) ?_
    rotate_left
    focus (intro wS hSw; (try dsimp only at hSw); go_simp; (try with_reducible rfl); (try (first | (rw [if_pos (by omega)]; (try go_simp); (try with_reducible rfl)) | (rw [if_neg (by omega)]; (try go_simp); (try with_reducible rfl)))))
    try simp only [Act.put, zA, zB, zC]
    refine wpAnyR_takeQ (i := 11) (v := undef) (some 18) rfl rfl (by kernel_rfl) (by kernel_rfl) (by kernel_rfl) (by kernel_rfl) (fun _ _ _ h => h) (Or.inr ⟨by rfl, rfl⟩) ?_
    try simp only [Act.put, zA, zB, zC]
    refine wpAnyR_takeQ (i := 12) (v := undef) (some 19) rfl rfl (by kernel_rfl) (by kernel_rfl) (by kernel_rfl) (by kernel_rfl) (fun _ _ _ h => h) (Or.inr ⟨by rfl, rfl⟩) ?_
    try simp only [Act.put, zA, zB, zC]
    refine wpAnyR_takeQ (i := 13) (v := undef) (some 20) rfl rfl (by kernel_rfl) (by kernel_rfl) (by kernel_rfl) (by kernel_rfl) (fun _ _ _ h => h) (Or.inr ⟨by rfl, rfl⟩) ?_
    try simp only [Act.put, zA, zB, zC]
    refine wpAnyR_takeQ (i := 14) (v := undef) (some 21) rfl rfl (by kernel_rfl) (by kernel_rfl) (by kernel_rfl) (by kernel_rfl) (fun _ _ _ h => h) (Or.inr ⟨by rfl, rfl⟩) ?_
    try simp only [Act.put, zA, zB, zC]
    refine wpAnyR_takeQ (i := 15) (v := undef) (some 22) rfl rfl (by kernel_rfl) (by kernel_rfl) (by kernel_rfl) (by kernel_rfl) (fun _ _ _ h => h) (Or.inr ⟨by rfl, rfl⟩) ?_
    try simp only [Act.put, zA, zB, zC]
    refine wpAnyR_takeQ (i := 16) (v := undef) (some 23) rfl rfl (by kernel_rfl) (by kernel_rfl) (by kernel_rfl) (by kernel_rfl) (fun _ _ _ h => h) (Or.inr ⟨by rfl, rfl⟩) ?_
    try simp only [Act.put, zA, zB, zC]
    refine wpAnyR_takeQ (i := 17) (v := undef) (some 24) rfl rfl (by kernel_rfl) (by kernel_rfl) (by kernel_rfl) (by kernel_rfl) (fun _ _ _ h => h) (Or.inr ⟨by rfl, rfl⟩) ?_
    try simp only [Act.put, zA, zB, zC]
    refine wpAnyR_takeQ (i := 18) (v := ?_) (some 25) rfl rfl (by kernel_rfl) (by kernel_rfl) (by kernel_rfl) (by kernel_rfl) (fun _ _ _ h => h) (Or.inl ⟨by rfl, ?_⟩) ?_
    rotate_left
    focus (intro wS hSw; (try dsimp only at hSw); go_simp; (try with_reducible rfl); (try (first | (rw [if_pos (by omega)]; (try go_simp); (try with_reducible rfl)) | (rw [if_neg (by omega)]; (try go_simp); (try with_reducible rfl)))))
    try simp only [Act.put, zA, zB, zC]
    refine wpAnyR_done (by kernel_rfl) ?_ _
    go_wp2_with fail
    go_ret
    exact ⟨ret_bool (by rw [HE.out]), HG0.out.drew⟩
  | true =>
  have HN := Lib.hid hn
  clear hn
  by_cases hz : okT T.tracks = true
  rotate_left
  · have hz' : okT T.tracks = false := by simpa using hz
    have HE := Lib.hid (validT_false_head T (by unfold headB; rw [hz']; rfl))
    have HT0 := Lib.hid (show ttS T.tracks = 0 from by unfold ttS; rw [if_neg hz])
    clear hz hz'
    go_enter Tryz.func11, Tryz.ntmps11
    go_wp2_with fail
    refine wp_region_R [] (fun w' : World => w'.cell? ⟨w.heap.size, 0, none⟩ = some (.string T.name) ∧ w'.cell? ⟨w.heap.size, 1, none⟩ = some (.int .i64 T.tracks) ∧ w'.cell? ⟨w.heap.size, 2, none⟩ = some (.slice A T.labels.length c)) (by kernel_rfl) ?_
    have hS : (fun w' : World => w'.cell? ⟨w.heap.size, 0, none⟩ = some (.string T.name) ∧ w'.cell? ⟨w.heap.size, 1, none⟩ = some (.int .i64 T.tracks) ∧ w'.cell? ⟨w.heap.size, 2, none⟩ = some (.slice A T.labels.length c)) (w.alloc (.cells #[.string T.name, .int .i64 T.tracks, .slice A T.labels.length c] 24)).drew := ⟨HB0.out.drew.cell 0, HB0.out.drew.cell 1, HB0.out.drew.cell 2⟩
    refine wpAnyR_takeQ (i := 0) (v := ?_) (some 7) rfl rfl (by kernel_rfl) (by kernel_rfl) (by kernel_rfl) (by kernel_rfl) (fun _ _ _ h => h) (Or.inl ⟨by rfl, ?_⟩) ?_
    rotate_left
    focus (intro wS hSw; (try dsimp only at hSw); go_simp; (try with_reducible rfl); (try (first | (rw [if_pos (by omega)]; (try go_simp); (try with_reducible rfl)) | (rw [if_neg (by omega)]; (try go_simp); (try with_reducible rfl)))))
    try simp only [Act.put, zA, zB, zC]
    refine wpAnyR_take (i := 1) (v := ?_) [2, 3, 4, 5, 6, 7, 8, 9, 10, 11, 12, 13, 14, 15, 16, 17, 18] (some 8) rfl rfl (by kernel_rfl) (by kernel_rfl) (by kernel_rfl) (by kernel_rfl) (by kernel_rfl) (by kernel_rfl) (by kernel_rfl) (fun _ _ _ h => h) (Or.inl ⟨by rfl, ?_⟩) hS ?_
    rotate_left
    focus (intro wS hSw; (try dsimp only at hSw); go_simp; (try with_reducible rfl); (try (first | (rw [if_pos (by omega)]; (try go_simp); (try with_reducible rfl)) | (rw [if_neg (by omega)]; (try go_simp); (try with_reducible rfl)))))
    try simp only [Act.put, zA, zB, zC]
    refine wpAnyR_n1 (i := 2) rfl (by kernel_rfl) ?_
    intro K' hK
    rw [if_pos (by rfl)]
    simp only [List.getElem_toArray, List.getElem_cons_succ, List.getElem_cons_zero]
    go_wp2_with fail
    refine (rvalidName_any _ _ hnm).mono ?_
    rintro e w1 ⟨rfl, rfl⟩
    rw [HN.out]
    go_wp2_with fail
    refine hK.out _ _ (.inr (fun h => h)) ?_
    clear hK
    refine wpAnyR_takeQ (i := 3) (v := ?_) (some 10) rfl rfl (by kernel_rfl) (by kernel_rfl) (by kernel_rfl) (by kernel_rfl) (fun _ _ _ h => h) (Or.inl ⟨by rfl, ?_⟩) ?_
    rotate_left
    focus (intro wS hSw; (try dsimp only at hSw); go_simp; (try with_reducible rfl); (try (first | (rw [if_pos (by omega)]; (try go_simp); (try with_reducible rfl)) | (rw [if_neg (by omega)]; (try go_simp); (try with_reducible rfl)))))
    try simp only [Act.put, zA, zB, zC]
    refine wpAnyR_takeQ (i := 4) (v := ?_) (some 11) rfl rfl (by kernel_rfl) (by kernel_rfl) (by kernel_rfl) (by kernel_rfl) (fun _ _ _ h => h) (Or.inl ⟨by rfl, ?_⟩) ?_
    rotate_left
    focus (intro wS hSw; (try dsimp only at hSw); go_simp; (try with_reducible rfl); (try (first | (rw [if_pos (by omega)]; (try go_simp); (try with_reducible rfl)) | (rw [if_neg (by omega)]; (try go_simp); (try with_reducible rfl)))))
    try simp only [Act.put, zA, zB, zC]
    refine wpAnyR_takeQ (i := 5) (v := ?_) (some 12) rfl rfl (by kernel_rfl) (by kernel_rfl) (by kernel_rfl) (by kernel_rfl) (fun _ _ _ h => h) (Or.inl ⟨by rfl, ?_⟩) ?_
    rotate_left
    focus (intro wS hSw; (try dsimp only at hSw); go_simp; (try with_reducible rfl); (try (first | (rw [if_pos (by omega)]; (try go_simp); (try with_reducible rfl)) | (rw [if_neg (by omega)]; (try go_simp); (try with_reducible rfl)))))
    try simp only [Act.put, zA, zB, zC]
    refine wpAnyR_take (i := 6) (v := ?_) [7, 8, 9, 10, 11, 12, 13, 14, 15, 16, 17, 18] (some 13) rfl rfl (by kernel_rfl) (by kernel_rfl) (by kernel_rfl) (by kernel_rfl) (by kernel_rfl) (by kernel_rfl) (by kernel_rfl) (fun _ _ _ h => h) (Or.inl ⟨by rfl, ?_⟩) hS ?_
    rotate_left
    focus (intro wS hSw; (try dsimp only at hSw); go_simp; (try with_reducible rfl); (try (first | (rw [if_pos (by omega)]; (try go_simp); (try with_reducible rfl)) | (rw [if_neg (by omega)]; (try go_simp); (try with_reducible rfl)))))
    try simp only [Act.put, zA, zB, zC]
    refine wpAnyR_n1 (i := 7) rfl (by kernel_rfl) ?_
    intro K' hK
    rw [if_pos (by rfl)]
    simp only [List.getElem_toArray, List.getElem_cons_succ, List.getElem_cons_zero]
    go_wp2_with fail
    refine (rtable_any _ _).mono ?_
    rintro e w1 ⟨rfl, rfl⟩
    rw [HT0.out]
    go_wp2_with fail
    refine hK.out _ _ (.inr (fun h => h)) ?_
    clear hK
    refine wpAnyR_takeQ (i := 8) (v := ?_) (some 15) rfl rfl (by kernel_rfl) (by kernel_rfl) (by kernel_rfl) (by kernel_rfl) (fun _ _ _ h => h) (Or.inl ⟨by rfl, ?_⟩) ?_
    rotate_left
    focus (intro wS hSw; (try dsimp only at hSw); go_simp; (try with_reducible rfl); (try (first | (rw [if_pos (by omega)]; (try go_simp); (try with_reducible rfl)) | (rw [if_neg (by omega)]; (try go_simp); (try with_reducible rfl)))))
    try simp only [Act.put, zA, zB, zC]
    refine wpAnyR_takeQ (i := 9) (v := ?_) (some 16) rfl rfl (by kernel_rfl) (by kernel_rfl) (by kernel_rfl) (by kernel_rfl) (fun _ _ _ h => h) (Or.inl ⟨by rfl, ?_⟩) ?_
    rotate_left
    focus (intro wS hSw; (try dsimp only at hSw); go_simp; (try with_reducible rfl); (try (first | (rw [if_pos (by omega)]; (try go_simp); (try with_reducible rfl)) | (rw [if_neg (by omega)]; (try go_simp); (try with_reducible rfl)))))
    try simp only [Act.put, zA, zB, zC]
    refine wpAnyR_takeQ (i := 10) (v := ?_) (some 17) rfl rfl (by kernel_rfl) (by kernel_rfl) (by kernel_rfl) (by kernel_rfl) (fun _ _ _ h => h) (Or.inl ⟨by rfl, ?_⟩) ?_
    rotate_left
    focus (intro wS hSw; (try dsimp only at hSw); go_simp; (try with_reducible rfl); (try (first | (rw [if_pos (by omega)]; (try go_simp); (try with_reducible rfl)) | (rw [if_neg (by omega)]; (try go_simp); (try with_reducible rfl)))))
    try simp only [Act.put, zA, zB, zC]
    refine wpAnyR_takeQ (i := 11) (v := undef) (some 18) rfl rfl (by kernel_rfl) (by kernel_rfl) (by kernel_rfl) (by kernel_rfl) (fun _ _ _ h => h) (Or.inr ⟨by rfl, rfl⟩) ?_
    try simp only [Act.put, zA, zB, zC]
    refine wpAnyR_takeQ (i := 12) (v := undef) (some 19) rfl rfl (by kernel_rfl) (by kernel_rfl) (by kernel_rfl) (by kernel_rfl) (fun _ _ _ h => h) (Or.inr ⟨by rfl, rfl⟩) ?_
    try simp only [Act.put, zA, zB, zC]
    refine wpAnyR_takeQ (i := 13) (v := undef) (some 20) rfl rfl (by kernel_rfl) (by kernel_rfl) (by kernel_rfl) (by kernel_rfl) (fun _ _ _ h => h) (Or.inr ⟨by rfl, rfl⟩) ?_
    try simp only [Act.put, zA, zB, zC]
    refine wpAnyR_takeQ (i := 14) (v := undef) (some 21) rfl rfl (by kernel_rfl) (by kernel_rfl) (by kernel_rfl) (by kernel_rfl) (fun _ _ _ h => h) (Or.inr ⟨by rfl, rfl⟩) ?_
    try simp only [Act.put, zA, zB, zC]
    refine wpAnyR_takeQ (i := 15) (v := undef) (some 22) rfl rfl (by kernel_rfl) (by kernel_rfl) (by kernel_rfl) (by kernel_rfl) (fun _ _ _ h => h) (Or.inr ⟨by rfl, rfl⟩) ?_
    try simp only [Act.put, zA, zB, zC]
    refine wpAnyR_takeQ (i := 16) (v := undef) (some 23) rfl rfl (by kernel_rfl) (by kernel_rfl) (by kernel_rfl) (by kernel_rfl) (fun _ _ _ h => h) (Or.inr ⟨by rfl, rfl⟩) ?_
    try simp only [Act.put, zA, zB, zC]
    refine wpAnyR_takeQ (i := 17) (v := undef) (some 24) rfl rfl (by kernel_rfl) (by kernel_rfl) (by kernel_rfl) (by kernel_rfl) (fun _ _ _ h => h) (Or.inr ⟨by rfl, rfl⟩) ?_
    try simp only [Act.put, zA, zB, zC]
    refine wpAnyR_takeQ (i := 18) (v := ?_) (some 25) rfl rfl (by kernel_rfl) (by kernel_rfl) (by kernel_rfl) (by kernel_rfl) (fun _ _ _ h => h) (Or.inl ⟨by rfl, ?_⟩) ?_
    rotate_left
    focus (intro wS hSw; (try dsimp only at hSw); go_simp; (try with_reducible rfl); (try (first | (rw [if_pos (by omega)]; (try go_simp); (try with_reducible rfl)) | (rw [if_neg (by omega)]; (try go_simp); (try with_reducible rfl)))))
    try simp only [Act.put, zA, zB, zC]
    refine wpAnyR_done (by kernel_rfl) ?_ _
    go_wp2_with fail
    go_ret
    exact ⟨ret_bool (by rw [HE.out]), HG0.out.drew⟩
  obtain ⟨tt, htt⟩ : ∃ tt, ttS T.tracks = tt := ⟨_, rfl⟩
  have HT0 := Lib.hid htt
  have HZ := Lib.hid (show (tt == 0) = false from by
    rw [beq_eq_false_iff_ne, ← htt]
    unfold ttS
    have := okT_true hz
    rw [if_pos hz]
    omega)
  have HOK := Lib.hid hz
  clear hz htt
  obtain ⟨sl, hsl⟩ : ∃ sl, slotsS T.tracks = sl := ⟨_, rfl⟩
  have HL0 := Lib.hid hsl
  by_cases hl : (T.labels.length : Int) = sl
  rotate_left
  · have HL := Lib.hid (show ((T.labels.length : Int) != sl) = true from by rw [bne_iff_ne]; exact hl)
    have HE := Lib.hid (validT_false_head T (by unfold headB; rw [hsl, decide_eq_false hl]; simp))
    clear hl hsl
    go_enter Tryz.func11, Tryz.ntmps11
    go_wp2_with fail
    refine wp_region_R [] (fun w' : World => w'.cell? ⟨w.heap.size, 0, none⟩ = some (.string T.name) ∧ w'.cell? ⟨w.heap.size, 1, none⟩ = some (.int .i64 T.tracks) ∧ w'.cell? ⟨w.heap.size, 2, none⟩ = some (.slice A T.labels.length c)) (by kernel_rfl) ?_
    have hS : (fun w' : World => w'.cell? ⟨w.heap.size, 0, none⟩ = some (.string T.name) ∧ w'.cell? ⟨w.heap.size, 1, none⟩ = some (.int .i64 T.tracks) ∧ w'.cell? ⟨w.heap.size, 2, none⟩ = some (.slice A T.labels.length c)) (w.alloc (.cells #[.string T.name, .int .i64 T.tracks, .slice A T.labels.length c] 24)).drew := ⟨HB0.out.drew.cell 0, HB0.out.drew.cell 1, HB0.out.drew.cell 2⟩
    refine wpAnyR_takeQ (i := 0) (v := ?_) (some 7) rfl rfl (by kernel_rfl) (by kernel_rfl) (by kernel_rfl) (by kernel_rfl) (fun _ _ _ h => h) (Or.inl ⟨by rfl, ?_⟩) ?_
    rotate_left
    focus (intro wS hSw; (try dsimp only at hSw); go_simp; (try with_reducible rfl); (try (first | (rw [if_pos (by omega)]; (try go_simp); (try with_reducible rfl)) | (rw [if_neg (by omega)]; (try go_simp); (try with_reducible rfl)))))
    try simp only [Act.put, zA, zB, zC]
    refine wpAnyR_take (i := 1) (v := ?_) [2, 3, 4, 5, 6, 7, 8, 9, 10, 11, 12, 13, 14, 15, 16, 17, 18] (some 8) rfl rfl (by kernel_rfl) (by kernel_rfl) (by kernel_rfl) (by kernel_rfl) (by kernel_rfl) (by kernel_rfl) (by kernel_rfl) (fun _ _ _ h => h) (Or.inl ⟨by rfl, ?_⟩) hS ?_
    rotate_left
    focus (intro wS hSw; (try dsimp only at hSw); go_simp; (try with_reducible rfl); (try (first | (rw [if_pos (by omega)]; (try go_simp); (try with_reducible rfl)) | (rw [if_neg (by omega)]; (try go_simp); (try with_reducible rfl)))))
    try simp only [Act.put, zA, zB, zC]
    refine wpAnyR_n1 (i := 2) rfl (by kernel_rfl) ?_
    intro K' hK
    rw [if_pos (by rfl)]
    simp only [List.getElem_toArray, List.getElem_cons_succ, List.getElem_cons_zero]
    go_wp2_with fail
    refine (rvalidName_any _ _ hnm).mono ?_
    rintro e w1 ⟨rfl, rfl⟩
    rw [HN.out]
    go_wp2_with fail
    refine hK.out _ _ (.inr (fun h => h)) ?_
    clear hK
    refine wpAnyR_takeQ (i := 3) (v := ?_) (some 10) rfl rfl (by kernel_rfl) (by kernel_rfl) (by kernel_rfl) (by kernel_rfl) (fun _ _ _ h => h) (Or.inl ⟨by rfl, ?_⟩) ?_
    rotate_left
    focus (intro wS hSw; (try dsimp only at hSw); go_simp; (try with_reducible rfl); (try (first | (rw [if_pos (by omega)]; (try go_simp); (try with_reducible rfl)) | (rw [if_neg (by omega)]; (try go_simp); (try with_reducible rfl)))))
    try simp only [Act.put, zA, zB, zC]
    refine wpAnyR_takeQ (i := 4) (v := ?_) (some 11) rfl rfl (by kernel_rfl) (by kernel_rfl) (by kernel_rfl) (by kernel_rfl) (fun _ _ _ h => h) (Or.inl ⟨by rfl, ?_⟩) ?_
    rotate_left
    focus (intro wS hSw; (try dsimp only at hSw); go_simp; (try with_reducible rfl); (try (first | (rw [if_pos (by omega)]; (try go_simp); (try with_reducible rfl)) | (rw [if_neg (by omega)]; (try go_simp); (try with_reducible rfl)))))
    try simp only [Act.put, zA, zB, zC]
    refine wpAnyR_takeQ (i := 5) (v := ?_) (some 12) rfl rfl (by kernel_rfl) (by kernel_rfl) (by kernel_rfl) (by kernel_rfl) (fun _ _ _ h => h) (Or.inl ⟨by rfl, ?_⟩) ?_
    rotate_left
    focus (intro wS hSw; (try dsimp only at hSw); go_simp; (try with_reducible rfl); (try (first | (rw [if_pos (by omega)]; (try go_simp); (try with_reducible rfl)) | (rw [if_neg (by omega)]; (try go_simp); (try with_reducible rfl)))))
    try simp only [Act.put, zA, zB, zC]
    refine wpAnyR_take (i := 6) (v := ?_) [7, 8, 9, 10, 11, 12, 13, 14, 15, 16, 17, 18] (some 13) rfl rfl (by kernel_rfl) (by kernel_rfl) (by kernel_rfl) (by kernel_rfl) (by kernel_rfl) (by kernel_rfl) (by kernel_rfl) (fun _ _ _ h => h) (Or.inl ⟨by rfl, ?_⟩) hS ?_
    rotate_left
    focus (intro wS hSw; (try dsimp only at hSw); go_simp; (try with_reducible rfl); (try (first | (rw [if_pos (by omega)]; (try go_simp); (try with_reducible rfl)) | (rw [if_neg (by omega)]; (try go_simp); (try with_reducible rfl)))))
    try simp only [Act.put, zA, zB, zC]
    refine wpAnyR_n1 (i := 7) rfl (by kernel_rfl) ?_
    intro K' hK
    rw [if_pos (by rfl)]
    simp only [List.getElem_toArray, List.getElem_cons_succ, List.getElem_cons_zero]
    go_wp2_with fail
    refine (rtable_any _ _).mono ?_
    rintro e w1 ⟨rfl, rfl⟩
    rw [HT0.out]
    go_wp2_with fail
    refine hK.out _ _ (.inr (fun h => h)) ?_
    clear hK
    refine wpAnyR_takeQ (i := 8) (v := ?_) (some 15) rfl rfl (by kernel_rfl) (by kernel_rfl) (by kernel_rfl) (by kernel_rfl) (fun _ _ _ h => h) (Or.inl ⟨by rfl, ?_⟩) ?_
    rotate_left
    focus (intro wS hSw; (try dsimp only at hSw); go_simp; (try with_reducible rfl); (try (first | (rw [if_pos (by omega)]; (try go_simp); (try with_reducible rfl)) | (rw [if_neg (by omega)]; (try go_simp); (try with_reducible rfl)))))
    try simp only [Act.put, zA, zB, zC]
    rw [HZ.out]
    refine wpAnyR_takeQ (i := 9) (v := ?_) (some 16) rfl rfl (by kernel_rfl) (by kernel_rfl) (by kernel_rfl) (by kernel_rfl) (fun _ _ _ h => h) (Or.inl ⟨by rfl, ?_⟩) ?_
    rotate_left
    focus (intro wS hSw; (try dsimp only at hSw); go_simp; (try with_reducible rfl); (try (first | (rw [if_pos (by omega)]; (try go_simp); (try with_reducible rfl)) | (rw [if_neg (by omega)]; (try go_simp); (try with_reducible rfl)))))
    try simp only [Act.put, zA, zB, zC]
    refine wpAnyR_takeQ (i := 10) (v := ?_) (some 17) rfl rfl (by kernel_rfl) (by kernel_rfl) (by kernel_rfl) (by kernel_rfl) (fun _ _ _ h => h) (Or.inl ⟨by rfl, ?_⟩) ?_
    rotate_left
    focus (intro wS hSw; (try dsimp only at hSw); go_simp; (try with_reducible rfl); (try (first | (rw [if_pos (by omega)]; (try go_simp); (try with_reducible rfl)) | (rw [if_neg (by omega)]; (try go_simp); (try with_reducible rfl)))))
    try simp only [Act.put, zA, zB, zC]
    refine wpAnyR_takeQ (i := 11) (v := ?_) (some 18) rfl rfl (by kernel_rfl) (by kernel_rfl) (by kernel_rfl) (by kernel_rfl) (fun _ _ _ h => h) (Or.inl ⟨by rfl, ?_⟩) ?_
    rotate_left
    focus (intro wS hSw; (try dsimp only at hSw); go_simp; (try with_reducible rfl); (try (first | (rw [if_pos (by omega)]; (try go_simp); (try with_reducible rfl)) | (rw [if_neg (by omega)]; (try go_simp); (try with_reducible rfl)))))
    try simp only [Act.put, zA, zB, zC]
    refine wpAnyR_take (i := 12) (v := ?_) [13, 17, 18] (some 19) rfl rfl (by kernel_rfl) (by kernel_rfl) (by kernel_rfl) (by kernel_rfl) (by kernel_rfl) (by kernel_rfl) (by kernel_rfl) (fun _ _ _ h => h) (Or.inl ⟨by rfl, ?_⟩) hS ?_
    rotate_left
    focus (intro wS hSw; (try dsimp only at hSw); go_simp; (try with_reducible rfl); (try (first | (rw [if_pos (by omega)]; (try go_simp); (try with_reducible rfl)) | (rw [if_neg (by omega)]; (try go_simp); (try with_reducible rfl)))))
    try simp only [Act.put, zA, zB, zC]
    refine wpAnyR_take (i := 13) (v := ?_) [17, 18] (some 20) rfl rfl (by kernel_rfl) (by kernel_rfl) (by kernel_rfl) (by kernel_rfl) (by kernel_rfl) (by kernel_rfl) (by kernel_rfl) (fun _ _ _ h => h) (Or.inl ⟨by rfl, ?_⟩) hS ?_
    rotate_left
    focus (intro wS hSw; (try dsimp only at hSw); go_simp; (try with_reducible rfl); (try (first | (rw [if_pos (by omega)]; (try go_simp); (try with_reducible rfl)) | (rw [if_neg (by omega)]; (try go_simp); (try with_reducible rfl)))))
    try simp only [Act.put, zA, zB, zC]
    refine wpAnyR_takeQ (i := 14) (v := ?_) (some 21) rfl rfl (by kernel_rfl) (by kernel_rfl) (by kernel_rfl) (by kernel_rfl) (fun _ _ _ h => h) (Or.inl ⟨by rfl, ?_⟩) ?_
    rotate_left
    focus (intro wS hSw; (try dsimp only at hSw); go_simp; (try with_reducible rfl); (try (first | (rw [if_pos (by omega)]; (try go_simp); (try with_reducible rfl)) | (rw [if_neg (by omega)]; (try go_simp); (try with_reducible rfl)))))
    try simp only [Act.put, zA, zB, zC]
    refine wpAnyR_take (i := 15) (v := ?_) [16, 17, 18] (some 22) rfl rfl (by kernel_rfl) (by kernel_rfl) (by kernel_rfl) (by kernel_rfl) (by kernel_rfl) (by kernel_rfl) (by kernel_rfl) (fun _ _ _ h => h) (Or.inl ⟨by rfl, ?_⟩) hS ?_
    rotate_left
    focus (intro wS hSw; (try dsimp only at hSw); go_simp; (try with_reducible rfl); (try (first | (rw [if_pos (by omega)]; (try go_simp); (try with_reducible rfl)) | (rw [if_neg (by omega)]; (try go_simp); (try with_reducible rfl)))))
    try simp only [Act.put, zA, zB, zC]
    refine wpAnyR_n1 (i := 16) rfl (by kernel_rfl) ?_
    intro K' hK
    rw [if_pos (by rfl)]
    simp only [List.getElem_toArray, List.getElem_cons_succ, List.getElem_cons_zero]
    go_wp2_with fail
    refine (rslots_any _ _).mono ?_
    rintro e w1 ⟨rfl, rfl⟩
    rw [HL0.out]
    go_wp2_with fail
    refine hK.out _ _ (.inr (fun h => h)) ?_
    clear hK
    refine wpAnyR_takeQ (i := 17) (v := ?_) (some 24) rfl rfl (by kernel_rfl) (by kernel_rfl) (by kernel_rfl) (by kernel_rfl) (fun _ _ _ h => h) (Or.inl ⟨by rfl, ?_⟩) ?_
    rotate_left
    focus (intro wS hSw; (try dsimp only at hSw); go_simp; (try with_reducible rfl); (try (first | (rw [if_pos (by omega)]; (try go_simp); (try with_reducible rfl)) | (rw [if_neg (by omega)]; (try go_simp); (try with_reducible rfl)))))
    try simp only [Act.put, zA, zB, zC]
    rw [HL.out]
    refine wpAnyR_takeQ (i := 18) (v := ?_) (some 25) rfl rfl (by kernel_rfl) (by kernel_rfl) (by kernel_rfl) (by kernel_rfl) (fun _ _ _ h => h) (Or.inl ⟨by rfl, ?_⟩) ?_
    rotate_left
    focus (intro wS hSw; (try dsimp only at hSw); go_simp; (try with_reducible rfl); (try (first | (rw [if_pos (by omega)]; (try go_simp); (try with_reducible rfl)) | (rw [if_neg (by omega)]; (try go_simp); (try with_reducible rfl)))))
    try simp only [Act.put, zA, zB, zC]
    refine wpAnyR_done (by kernel_rfl) ?_ _
    go_wp2_with fail
    go_ret
    exact ⟨ret_bool (by rw [HE.out]), HG0.out.drew⟩
  have HL := Lib.hid (show ((T.labels.length : Int) != sl) = false from by rw [bne_eq_false_iff_eq]; exact hl)
  have h31 : T.labels.length ≤ 31 := by
    have h1 := ttS_bd T.tracks
    unfold slotsS at hsl
    omega
  have HHD := Lib.hid (show headB T = true from by unfold headB; rw [HOK.out, HN.out, hsl, decide_eq_true hl]; rfl)
  clear hl hsl
  go_enter Tryz.func11, Tryz.ntmps11
  go_wp2_with fail
  refine wp_region_R [] (fun w' : World => w'.cell? ⟨w.heap.size, 0, none⟩ = some (.string T.name) ∧ w'.cell? ⟨w.heap.size, 1, none⟩ = some (.int .i64 T.tracks) ∧ w'.cell? ⟨w.heap.size, 2, none⟩ = some (.slice A T.labels.length c)) (by kernel_rfl) ?_
  have hS : (fun w' : World => w'.cell? ⟨w.heap.size, 0, none⟩ = some (.string T.name) ∧ w'.cell? ⟨w.heap.size, 1, none⟩ = some (.int .i64 T.tracks) ∧ w'.cell? ⟨w.heap.size, 2, none⟩ = some (.slice A T.labels.length c)) (w.alloc (.cells #[.string T.name, .int .i64 T.tracks, .slice A T.labels.length c] 24)).drew := ⟨HB0.out.drew.cell 0, HB0.out.drew.cell 1, HB0.out.drew.cell 2⟩
  refine wpAnyR_takeQ (i := 0) (v := ?_) (some 7) rfl rfl (by kernel_rfl) (by kernel_rfl) (by kernel_rfl) (by kernel_rfl) (fun _ _ _ h => h) (Or.inl ⟨by rfl, ?_⟩) ?_
  rotate_left
  focus (intro wS hSw; (try dsimp only at hSw); go_simp; (try with_reducible rfl); (try (first | (rw [if_pos (by omega)]; (try go_simp); (try with_reducible rfl)) | (rw [if_neg (by omega)]; (try go_simp); (try with_reducible rfl)))))
  try simp only [Act.put, zA, zB, zC]
  refine wpAnyR_take (i := 1) (v := ?_) [2, 3, 4, 5, 6, 7, 8, 9, 10, 11, 12, 13, 14, 15, 16, 17, 18] (some 8) rfl rfl (by kernel_rfl) (by kernel_rfl) (by kernel_rfl) (by kernel_rfl) (by kernel_rfl) (by kernel_rfl) (by kernel_rfl) (fun _ _ _ h => h) (Or.inl ⟨by rfl, ?_⟩) hS ?_
  rotate_left
  focus (intro wS hSw; (try dsimp only at hSw); go_simp; (try with_reducible rfl); (try (first | (rw [if_pos (by omega)]; (try go_simp); (try with_reducible rfl)) | (rw [if_neg (by omega)]; (try go_simp); (try with_reducible rfl)))))
  try simp only [Act.put, zA, zB, zC]
  refine wpAnyR_n1 (i := 2) rfl (by kernel_rfl) ?_
  intro K' hK
  rw [if_pos (by rfl)]
  simp only [List.getElem_toArray, List.getElem_cons_succ, List.getElem_cons_zero]
  go_wp2_with fail
  refine (rvalidName_any _ _ hnm).mono ?_
  rintro e w1 ⟨rfl, rfl⟩
  rw [HN.out]
  go_wp2_with fail
  refine hK.out _ _ (.inr (fun h => h)) ?_
  clear hK
  refine wpAnyR_takeQ (i := 3) (v := ?_) (some 10) rfl rfl (by kernel_rfl) (by kernel_rfl) (by kernel_rfl) (by kernel_rfl) (fun _ _ _ h => h) (Or.inl ⟨by rfl, ?_⟩) ?_
  rotate_left
  focus (intro wS hSw; (try dsimp only at hSw); go_simp; (try with_reducible rfl); (try (first | (rw [if_pos (by omega)]; (try go_simp); (try with_reducible rfl)) | (rw [if_neg (by omega)]; (try go_simp); (try with_reducible rfl)))))
  try simp only [Act.put, zA, zB, zC]
  refine wpAnyR_takeQ (i := 4) (v := ?_) (some 11) rfl rfl (by kernel_rfl) (by kernel_rfl) (by kernel_rfl) (by kernel_rfl) (fun _ _ _ h => h) (Or.inl ⟨by rfl, ?_⟩) ?_
  rotate_left
  focus (intro wS hSw; (try dsimp only at hSw); go_simp; (try with_reducible rfl); (try (first | (rw [if_pos (by omega)]; (try go_simp); (try with_reducible rfl)) | (rw [if_neg (by omega)]; (try go_simp); (try with_reducible rfl)))))
  try simp only [Act.put, zA, zB, zC]
  refine wpAnyR_takeQ (i := 5) (v := ?_) (some 12) rfl rfl (by kernel_rfl) (by kernel_rfl) (by kernel_rfl) (by kernel_rfl) (fun _ _ _ h => h) (Or.inl ⟨by rfl, ?_⟩) ?_
  rotate_left
  focus (intro wS hSw; (try dsimp only at hSw); go_simp; (try with_reducible rfl); (try (first | (rw [if_pos (by omega)]; (try go_simp); (try with_reducible rfl)) | (rw [if_neg (by omega)]; (try go_simp); (try with_reducible rfl)))))
  try simp only [Act.put, zA, zB, zC]
  refine wpAnyR_take (i := 6) (v := ?_) [7, 8, 9, 10, 11, 12, 13, 14, 15, 16, 17, 18] (some 13) rfl rfl (by kernel_rfl) (by kernel_rfl) (by kernel_rfl) (by kernel_rfl) (by kernel_rfl) (by kernel_rfl) (by kernel_rfl) (fun _ _ _ h => h) (Or.inl ⟨by rfl, ?_⟩) hS ?_
  rotate_left
  focus (intro wS hSw; (try dsimp only at hSw); go_simp; (try with_reducible rfl); (try (first | (rw [if_pos (by omega)]; (try go_simp); (try with_reducible rfl)) | (rw [if_neg (by omega)]; (try go_simp); (try with_reducible rfl)))))
  try simp only [Act.put, zA, zB, zC]
  refine wpAnyR_n1 (i := 7) rfl (by kernel_rfl) ?_
  intro K' hK
  rw [if_pos (by rfl)]
  simp only [List.getElem_toArray, List.getElem_cons_succ, List.getElem_cons_zero]
  go_wp2_with fail
  refine (rtable_any _ _).mono ?_
  rintro e w1 ⟨rfl, rfl⟩
  rw [HT0.out]
  go_wp2_with fail
  refine hK.out _ _ (.inr (fun h => h)) ?_
  clear hK
  refine wpAnyR_takeQ (i := 8) (v := ?_) (some 15) rfl rfl (by kernel_rfl) (by kernel_rfl) (by kernel_rfl) (by kernel_rfl) (fun _ _ _ h => h) (Or.inl ⟨by rfl, ?_⟩) ?_
  rotate_left
  focus (intro wS hSw; (try dsimp only at hSw); go_simp; (try with_reducible rfl); (try (first | (rw [if_pos (by omega)]; (try go_simp); (try with_reducible rfl)) | (rw [if_neg (by omega)]; (try go_simp); (try with_reducible rfl)))))
  try simp only [Act.put, zA, zB, zC]
  rw [HZ.out]
  refine wpAnyR_takeQ (i := 9) (v := ?_) (some 16) rfl rfl (by kernel_rfl) (by kernel_rfl) (by kernel_rfl) (by kernel_rfl) (fun _ _ _ h => h) (Or.inl ⟨by rfl, ?_⟩) ?_
  rotate_left
  focus (intro wS hSw; (try dsimp only at hSw); go_simp; (try with_reducible rfl); (try (first | (rw [if_pos (by omega)]; (try go_simp); (try with_reducible rfl)) | (rw [if_neg (by omega)]; (try go_simp); (try with_reducible rfl)))))
  try simp only [Act.put, zA, zB, zC]
  refine wpAnyR_takeQ (i := 10) (v := ?_) (some 17) rfl rfl (by kernel_rfl) (by kernel_rfl) (by kernel_rfl) (by kernel_rfl) (fun _ _ _ h => h) (Or.inl ⟨by rfl, ?_⟩) ?_
  rotate_left
  focus (intro wS hSw; (try dsimp only at hSw); go_simp; (try with_reducible rfl); (try (first | (rw [if_pos (by omega)]; (try go_simp); (try with_reducible rfl)) | (rw [if_neg (by omega)]; (try go_simp); (try with_reducible rfl)))))
  try simp only [Act.put, zA, zB, zC]
  refine wpAnyR_takeQ (i := 11) (v := ?_) (some 18) rfl rfl (by kernel_rfl) (by kernel_rfl) (by kernel_rfl) (by kernel_rfl) (fun _ _ _ h => h) (Or.inl ⟨by rfl, ?_⟩) ?_
  rotate_left
  focus (intro wS hSw; (try dsimp only at hSw); go_simp; (try with_reducible rfl); (try (first | (rw [if_pos (by omega)]; (try go_simp); (try with_reducible rfl)) | (rw [if_neg (by omega)]; (try go_simp); (try with_reducible rfl)))))
  try simp only [Act.put, zA, zB, zC]
  refine wpAnyR_take (i := 12) (v := ?_) [13, 17, 18] (some 19) rfl rfl (by kernel_rfl) (by kernel_rfl) (by kernel_rfl) (by kernel_rfl) (by kernel_rfl) (by kernel_rfl) (by kernel_rfl) (fun _ _ _ h => h) (Or.inl ⟨by rfl, ?_⟩) hS ?_
  rotate_left
  focus (intro wS hSw; (try dsimp only at hSw); go_simp; (try with_reducible rfl); (try (first | (rw [if_pos (by omega)]; (try go_simp); (try with_reducible rfl)) | (rw [if_neg (by omega)]; (try go_simp); (try with_reducible rfl)))))
  try simp only [Act.put, zA, zB, zC]
  refine wpAnyR_take (i := 13) (v := ?_) [17, 18] (some 20) rfl rfl (by kernel_rfl) (by kernel_rfl) (by kernel_rfl) (by kernel_rfl) (by kernel_rfl) (by kernel_rfl) (by kernel_rfl) (fun _ _ _ h => h) (Or.inl ⟨by rfl, ?_⟩) hS ?_
  rotate_left
  focus (intro wS hSw; (try dsimp only at hSw); go_simp; (try with_reducible rfl); (try (first | (rw [if_pos (by omega)]; (try go_simp); (try with_reducible rfl)) | (rw [if_neg (by omega)]; (try go_simp); (try with_reducible rfl)))))
  try simp only [Act.put, zA, zB, zC]
  refine wpAnyR_takeQ (i := 14) (v := ?_) (some 21) rfl rfl (by kernel_rfl) (by kernel_rfl) (by kernel_rfl) (by kernel_rfl) (fun _ _ _ h => h) (Or.inl ⟨by rfl, ?_⟩) ?_
  rotate_left
  focus (intro wS hSw; (try dsimp only at hSw); go_simp; (try with_reducible rfl); (try (first | (rw [if_pos (by omega)]; (try go_simp); (try with_reducible rfl)) | (rw [if_neg (by omega)]; (try go_simp); (try with_reducible rfl)))))
  try simp only [Act.put, zA, zB, zC]
  refine wpAnyR_take (i := 15) (v := ?_) [16, 17, 18] (some 22) rfl rfl (by kernel_rfl) (by kernel_rfl) (by kernel_rfl) (by kernel_rfl) (by kernel_rfl) (by kernel_rfl) (by kernel_rfl) (fun _ _ _ h => h) (Or.inl ⟨by rfl, ?_⟩) hS ?_
  rotate_left
  focus (intro wS hSw; (try dsimp only at hSw); go_simp; (try with_reducible rfl); (try (first | (rw [if_pos (by omega)]; (try go_simp); (try with_reducible rfl)) | (rw [if_neg (by omega)]; (try go_simp); (try with_reducible rfl)))))
  try simp only [Act.put, zA, zB, zC]
  refine wpAnyR_n1 (i := 16) rfl (by kernel_rfl) ?_
  intro K' hK
  rw [if_pos (by rfl)]
  simp only [List.getElem_toArray, List.getElem_cons_succ, List.getElem_cons_zero]
  go_wp2_with fail
  refine (rslots_any _ _).mono ?_
  rintro e w1 ⟨rfl, rfl⟩
  rw [HL0.out]
  go_wp2_with fail
  refine hK.out _ _ (.inr (fun h => h)) ?_
  clear hK
  refine wpAnyR_takeQ (i := 17) (v := ?_) (some 24) rfl rfl (by kernel_rfl) (by kernel_rfl) (by kernel_rfl) (by kernel_rfl) (fun _ _ _ h => h) (Or.inl ⟨by rfl, ?_⟩) ?_
  rotate_left
  focus (intro wS hSw; (try dsimp only at hSw); go_simp; (try with_reducible rfl); (try (first | (rw [if_pos (by omega)]; (try go_simp); (try with_reducible rfl)) | (rw [if_neg (by omega)]; (try go_simp); (try with_reducible rfl)))))
  try simp only [Act.put, zA, zB, zC]
  rw [HL.out]
  refine wpAnyR_takeQ (i := 18) (v := ?_) (some 25) rfl rfl (by kernel_rfl) (by kernel_rfl) (by kernel_rfl) (by kernel_rfl) (fun _ _ _ h => h) (Or.inl ⟨by rfl, ?_⟩) ?_
  rotate_left
  focus (intro wS hSw; (try dsimp only at hSw); go_simp; (try with_reducible rfl); (try (first | (rw [if_pos (by omega)]; (try go_simp); (try with_reducible rfl)) | (rw [if_neg (by omega)]; (try go_simp); (try with_reducible rfl)))))
  try simp only [Act.put, zA, zB, zC]
  refine wpAnyR_done (by kernel_rfl) ?_ _
  clear hS
  have x2 := HB0.out.drew.cell 2
  go_wp2_with fail
  go_loopg [3] T.labels.length (fun gk i wr => ∃ k : Nat, k ≤ T.labels.length ∧ gk = T.labels.length - k ∧ i = .int .i64 k ∧ Blk wr w.heap.size 24 #[.string T.name, .int .i64 T.tracks, .slice A T.labels.length c] ∧ (∀ j (hj : j < T.labels.length), j < k → okL T.tracks T.labels[j] = true) ∧ (keysL (T.labels.take k)).Nodup ∧ Grew w wr)
  case atStart => exact ⟨0, by omega, by omega, rfl, HB0.out.drew, fun j _ h => by omega, by simp [keysL], HG0.out.drew⟩
  case round =>
    obtain ⟨k, hk, hgk, rfl, hb, hall, hnd, hg⟩ := hrel
    rename World => wr1
    have HGK := Lib.hid hgk
    have HA := Lib.hid hall
    have HND := Lib.hid hnd
    have HB := Lib.hid hb
    have HG := Lib.hid hg
    clear x2
    have x1 := hb.cell 1
    have x2 := hb.cell 2
    have hbl0 := hb.lt
    clear hgk hall hnd
    by_cases hlt : k < T.labels.length
    · obtain ⟨b, off, B, d, l, rfl, hbl, hxk, hv, hla, c0, c1, c2, c3, c4⟩ := (HTB.out.hold hg).at_ hlt
      have hle := HS.out.ext T.labels[k] (List.getElem_mem hlt)
      rw [hv] at hle
      have hks := keysL_snoc T.labels k hlt
      rw [hv] at hks
      have hgl : Grew wr1 (wr1.alloc (.cells #[.int .i64 l.id, .int .i64 l.unit, .string l.name, .string l.note, .slice B l.ext.length d] 31)) := (Grew.refl wr1).alloc _
      have HEM := Lib.hid (fun w3 (g3 : Grew (wr1.alloc (.cells #[.int .i64 l.id, .int .i64 l.unit, .string l.name, .string l.note, .slice B l.ext.length d] 31)) w3) => rempty_any B d l w3 ((hla.hold hgl).hold g3) hle)
      have HVL := Lib.hid (fun w3 (g3 : Grew (wr1.alloc (.cells #[.int .i64 l.id, .int .i64 l.unit, .string l.name, .string l.note, .slice B l.ext.length d] 31)) w3) => rvalid_lab B d l T.tracks w3 ((hla.hold hgl).hold g3) (by omega) ht0 ht1)
      have HV := Lib.hid hv
      have HKS := Lib.hid hks
      have HLB := Lib.hid (Blk.new wr1 31 #[.int .i64 l.id, .int .i64 l.unit, .string l.name, .string l.note, .slice B l.ext.length d] rfl)
      have HGL := Lib.hid hgl
      have HB1 := Lib.hid (hb.grew hgl)
      clear hv hxk hla hks hgl hb hg
      go_wp2_with fail
      refine (HEM.out _ (Grew.refl _)).mono ?_
      rintro e w3 ⟨rfl, g3⟩
      have hlb := HLB.out.grew g3
      have hb3 := HB1.out.grew g3
      have y0 := hlb.cell 0
      have y1 := hlb.cell 1
      have y2 := hlb.cell 2
      have y3 := hlb.cell 3
      have y4 := hlb.cell 4
      have hyl := hlb.lt
      have z1 := hb3.cell 1
      have z2 := hb3.cell 2
      have hzl := hb3.lt
      have HG3 := Lib.hid g3
      clear hlb hb3 c0 c1 c2 c3 c4 x1 x2
      -- behind the test of the label itself: the inner loop
      have inner : ∀ (K : True), okL T.tracks l = true → True := fun _ _ => trivial
      clear inner
      cases hem : emL l with
      | true =>
        have HEMT := Lib.hid hem
        have HOKL := Lib.hid (show okL T.tracks l = true from by unfold okL; rw [hem]; rfl)
        clear hem g3
        go_wp2_with fail
        go_loopg [5] k (fun gk i wr => ∃ q : Nat, q ≤ k ∧ gk = k - q ∧ i = .int .i64 q ∧ Blk wr w.heap.size 24 #[.string T.name, .int .i64 T.tracks, .slice (some ⟨b, off, none⟩) T.labels.length c] ∧ Blk wr wr1.heap.size 31 #[.int .i64 l.id, .int .i64 l.unit, .string l.name, .string l.note, .slice B l.ext.length d] ∧ (∀ j (hj : j < T.labels.length), j < q → True) ∧ Grew (wr1.alloc (.cells #[.int .i64 l.id, .int .i64 l.unit, .string l.name, .string l.note, .slice B l.ext.length d] 31)) wr)
        case atStart => exact ⟨0, by omega, by omega, rfl, HB1.out.grew HG3.out, HLB.out.grew HG3.out, fun j _ h => by omega, HG3.out⟩
        case round =>
          obtain ⟨q, hq, hgq, rfl, hb, hlb, hall, hg⟩ := hrel
          have HGQ := Lib.hid hgq
          have HQ := Lib.hid hall
          have HGR := Lib.hid hg
          have HBR := Lib.hid hb
          have HLR := Lib.hid hlb
          clear y0 y1 y2 y3 y4 hyl z1 z2 hzl hgq hall
          have z2 := hb.cell 2
          have hzl := hb.lt
          have y0 := hlb.cell 0
          have y1 := hlb.cell 1
          have y2 := hlb.cell 2
          have y3 := hlb.cell 3
          have y4 := hlb.cell 4
          have hyl := hlb.lt
          by_cases hqk : q < k
          · have hqT : q < T.labels.length := by omega
            obtain ⟨b', off', B2, d2, m, hbo, hbl2, hxk2, hv2, hla2, m0, m1, m2, m3, m4⟩ := (HTB.out.hold (HG.out.trans (HGL.out.trans hg))).at_ hqT
            injection hbo with hbo
            injection hbo with hbo1 hbo2 _
            subst hbo1; subst hbo2
            have hgm : Grew wr (wr.alloc (.cells #[.int .i64 m.id, .int .i64 m.unit, .string m.name, .string m.note, .slice B2 m.ext.length d2] 31)) := (Grew.refl wr).alloc _
            have HE2 := Lib.hid (HEM.out _ (hg.trans hgm))
            have HV2 := Lib.hid hv2
            have HGM := Lib.hid hgm
            have HMB := Lib.hid (Blk.new wr 31 #[.int .i64 m.id, .int .i64 m.unit, .string m.name, .string m.note, .slice B2 m.ext.length d2] rfl)
            have HOKM := Lib.hid (show okL T.tracks m = true from by have := HA.out q hqT hqk; rwa [hv2] at this)
            clear hv2 hxk2 hla2 hgm hb hlb hg
            go_wp2_with fail
            refine HE2.out.mono ?_
            rintro e w6 ⟨rfl, g6⟩
            rw [HEMT.out]
            have hlb6 := (HLR.out.grew HGM.out).grew g6
            have hmb6 := HMB.out.grew g6
            clear y0 y1 y2 y3 y4 hyl m0 m1 m2 m3 m4
            have y0 := hlb6.cell 0
            have y1 := hlb6.cell 1
            have hyl := hlb6.lt
            have m0 := hmb6.cell 0
            have m1 := hmb6.cell 1
            have hml := hmb6.lt
            have HG6 := Lib.hid ((HGR.out.trans HGM.out).trans g6)
            have HB6 := Lib.hid ((HBR.out.grew HGM.out).grew g6)
            have HL6 := Lib.hid hlb6
            clear hlb6 hmb6 g6
            go_wp2_with fail
            go_roundg (k - (q + 1))
            case measure => rw [HGQ.out]; omega
            case rel => exact ⟨q + 1, by omega, by omega, by go_num, HB6.out, HL6.out, fun _ _ _ => trivial, HG6.out⟩
          · clear hb hlb hg
            go_wp2_with fail
            go_roundg (T.labels.length - (k + 1))
            case measure => rw [HGK.out]; omega
            case rel =>
              refine ⟨k + 1, by omega, by omega, by go_num, HBR.out, ?_, ?_, HG.out.trans (HGL.out.trans HGR.out)⟩
              · intro j hj hjk
                by_cases hjk' : j = k
                · subst hjk'; rw [HV.out]; exact HOKL.out
                · exact HA.out j hj (by omega)
              · rw [HKS.out, if_pos HEMT.out, List.append_nil]; exact HND.out
      | false =>
        have HEMT := Lib.hid hem
        clear hem g3
        go_wp2_with fail
        refine (HVL.out w3 HG3.out).mono ?_
        rintro e w4 ⟨rfl, g4⟩
        cases hvl : validL l T.tracks with
        | false =>
          have HF := Lib.hid (validT_false_lab T k hlt (by rw [HV.out]; unfold okL; rw [HEMT.out, hvl]; rfl))
          clear hvl
          go_wp2_with fail
          go_ret
          exact ⟨ret_bool (by rw [HF.out]), HG.out.trans ((HGL.out.trans HG3.out).trans g4)⟩
        | true =>
          have HOKL := Lib.hid (show okL T.tracks l = true from by unfold okL; rw [hvl]; simp)
          have HG4 := Lib.hid (HG3.out.trans g4)
          have hlb := HLB.out.grew HG4.out
          have hb3 := HB1.out.grew HG4.out
          clear y0 y1 y2 y3 y4 hyl z1 z2 hzl hvl g4 
          have y0 := hlb.cell 0
          have y1 := hlb.cell 1
          have y2 := hlb.cell 2
          have y3 := hlb.cell 3
          have y4 := hlb.cell 4
          have hyl := hlb.lt
          have z1 := hb3.cell 1
          have z2 := hb3.cell 2
          have hzl := hb3.lt
          clear hlb hb3
          go_wp2_with fail
          go_loopg [5] k (fun gk i wr => ∃ q : Nat, q ≤ k ∧ gk = k - q ∧ i = .int .i64 q ∧ Blk wr w.heap.size 24 #[.string T.name, .int .i64 T.tracks, .slice (some ⟨b, off, none⟩) T.labels.length c] ∧ Blk wr wr1.heap.size 31 #[.int .i64 l.id, .int .i64 l.unit, .string l.name, .string l.note, .slice B l.ext.length d] ∧ (∀ j (hj : j < T.labels.length), j < q → clash T.labels[j] l = false) ∧ Grew (wr1.alloc (.cells #[.int .i64 l.id, .int .i64 l.unit, .string l.name, .string l.note, .slice B l.ext.length d] 31)) wr)
          case atStart => exact ⟨0, by omega, by omega, rfl, HB1.out.grew HG4.out, HLB.out.grew HG4.out, fun j _ h => by omega, HG4.out⟩
          case round =>
            obtain ⟨q, hq, hgq, rfl, hb, hlb, hall, hg⟩ := hrel
            have HGQ := Lib.hid hgq
            have HQ := Lib.hid hall
            have HGR := Lib.hid hg
            have HBR := Lib.hid hb
            have HLR := Lib.hid hlb
            clear y0 y1 y2 y3 y4 hyl z1 z2 hzl hgq hall
            have z2 := hb.cell 2
            have hzl := hb.lt
            have y0 := hlb.cell 0
            have y1 := hlb.cell 1
            have y2 := hlb.cell 2
            have y3 := hlb.cell 3
            have y4 := hlb.cell 4
            have hyl := hlb.lt
            by_cases hqk : q < k
            · have hqT : q < T.labels.length := by omega
              obtain ⟨b', off', B2, d2, m, hbo, hbl2, hxk2, hv2, hla2, m0, m1, m2, m3, m4⟩ := (HTB.out.hold (HG.out.trans (HGL.out.trans hg))).at_ hqT
              injection hbo with hbo
              injection hbo with hbo1 hbo2 _
              subst hbo1; subst hbo2
              have hgm : Grew wr (wr.alloc (.cells #[.int .i64 m.id, .int .i64 m.unit, .string m.name, .string m.note, .slice B2 m.ext.length d2] 31)) := (Grew.refl wr).alloc _
              have HE2 := Lib.hid (HEM.out _ (hg.trans hgm))
              have HV2 := Lib.hid hv2
              have HGM := Lib.hid hgm
              have HMB := Lib.hid (Blk.new wr 31 #[.int .i64 m.id, .int .i64 m.unit, .string m.name, .string m.note, .slice B2 m.ext.length d2] rfl)
              have HOKM := Lib.hid (show okL T.tracks m = true from by have := HA.out q hqT hqk; rwa [hv2] at this)
              clear hv2 hxk2 hla2 hgm hb hlb hg
              go_wp2_with fail
              refine HE2.out.mono ?_
              rintro e w6 ⟨rfl, g6⟩
              rw [HEMT.out]
              have hlb6 := (HLR.out.grew HGM.out).grew g6
              have hmb6 := HMB.out.grew g6
              clear y0 y1 y2 y3 y4 hyl m0 m1 m2 m3 m4
              have y0 := hlb6.cell 0
              have y1 := hlb6.cell 1
              have hyl := hlb6.lt
              have m0 := hmb6.cell 0
              have m1 := hmb6.cell 1
              have hml := hmb6.lt
              have HG6 := Lib.hid ((HGR.out.trans HGM.out).trans g6)
              have HB6 := Lib.hid ((HBR.out.grew HGM.out).grew g6)
              have HL6 := Lib.hid hlb6
              clear hlb6 hmb6 g6
              have HCL := Lib.hid (show clash m l = ((m.id == l.id) && ((m.unit == 0) == (l.unit == 0))) from rfl)
              have next : clash m l = false → ∀ j (hj : j < T.labels.length), j < q + 1 → clash T.labels[j] l = false := fun hc j hj hjq => by
                by_cases hjq' : j = q
                · subst hjq'; rw [HV2.out]; exact hc
                · exact HQ.out j hj (by omega)
              have NX := Lib.hid next
              clear next
              cases e1 : (m.id == l.id) with
              | false =>
                have HC := Lib.hid (show clash m l = false from HCL.out.trans (by rw [e1]; rfl))
                go_wp2_with fail
                go_roundg (k - (q + 1))
                case measure => rw [HGQ.out]; omega
                case rel => exact ⟨q + 1, by omega, by omega, by go_num, HB6.out, HL6.out, NX.out HC.out, HG6.out⟩
              | true =>
                cases e2 : (m.unit == 0) with
                | true =>
                  cases e3 : (l.unit == 0) with
                  | true =>
                    have HC := Lib.hid (show clash m l = true from HCL.out.trans (by rw [e1, e2, e3]; rfl))
                    obtain ⟨hc1, hc2⟩ := clash_key T.tracks m l HOKM.out HOKL.out HEMT.out HC.out
                    have HF := Lib.hid (validT_false_key T (fun hnd => by
                      have h1 := keysL_take_nodup T.labels (k + 1) hnd
                      rw [HKS.out, if_neg (by rw [HEMT.out]; simp)] at h1
                      have h2 := keys_in T.labels k q hqT hqk (by rw [HV2.out]; exact hc1)
                      rw [HV2.out, hc2] at h2
                      exact (List.nodup_append.1 h1).2.2 _ h2 _ (List.mem_singleton.2 rfl) rfl))
                    clear hc1 hc2
                    go_wp2_with fail
                    go_ret
                    exact ⟨ret_bool (by rw [HF.out]), HG.out.trans (HGL.out.trans HG6.out)⟩
                  | false =>
                    have HC := Lib.hid (show clash m l = false from HCL.out.trans (by rw [e1, e2, e3]; rfl))
                    go_wp2_with fail
                    go_roundg (k - (q + 1))
                    case measure => rw [HGQ.out]; omega
                    case rel => exact ⟨q + 1, by omega, by omega, by go_num, HB6.out, HL6.out, NX.out HC.out, HG6.out⟩
                | false =>
                  cases e3 : (l.unit == 0) with
                  | true =>
                    have HC := Lib.hid (show clash m l = false from HCL.out.trans (by rw [e1, e2, e3]; rfl))
                    go_wp2_with fail
                    go_roundg (k - (q + 1))
                    case measure => rw [HGQ.out]; omega
                    case rel => exact ⟨q + 1, by omega, by omega, by go_num, HB6.out, HL6.out, NX.out HC.out, HG6.out⟩
                  | false =>
                    have HC := Lib.hid (show clash m l = true from HCL.out.trans (by rw [e1, e2, e3]; rfl))
                    obtain ⟨hc1, hc2⟩ := clash_key T.tracks m l HOKM.out HOKL.out HEMT.out HC.out
                    have HF := Lib.hid (validT_false_key T (fun hnd => by
                      have h1 := keysL_take_nodup T.labels (k + 1) hnd
                      rw [HKS.out, if_neg (by rw [HEMT.out]; simp)] at h1
                      have h2 := keys_in T.labels k q hqT hqk (by rw [HV2.out]; exact hc1)
                      rw [HV2.out, hc2] at h2
                      exact (List.nodup_append.1 h1).2.2 _ h2 _ (List.mem_singleton.2 rfl) rfl))
                    clear hc1 hc2
                    go_wp2_with fail
                    go_ret
                    exact ⟨ret_bool (by rw [HF.out]), HG.out.trans (HGL.out.trans HG6.out)⟩
            · clear hb hlb hg
              go_wp2_with fail
              go_roundg (T.labels.length - (k + 1))
              case measure => rw [HGK.out]; omega
              case rel =>
                refine ⟨k + 1, by omega, by omega, by go_num, HBR.out, ?_, ?_, HG.out.trans (HGL.out.trans HGR.out)⟩
                · intro j hj hjk
                  by_cases hjk' : j = k
                  · subst hjk'; rw [HV.out]; exact HOKL.out
                  · exact HA.out j hj (by omega)
                · rw [HKS.out, if_neg (by rw [HEMT.out]; simp), List.nodup_append]
                  refine ⟨HND.out, by simp, fun a ha b2 hb2 he => ?_⟩
                  rw [List.mem_singleton.1 hb2] at he
                  subst he
                  obtain ⟨j, hj, hjk, hje, hjx⟩ := keys_mem T.labels k _ ha
                  have h1 := HQ.out j hj (by omega)
                  rw [key_clash T.tracks _ _ (HA.out j hj hjk) HOKL.out hjx] at h1
                  cases h1
    · have hkn : k = T.labels.length := by omega
      subst hkn
      have HAL := Lib.hid (show T.labels.all (okL T.tracks) = true from List.all_eq_true.2 (fun l hl => by
        obtain ⟨j, hj, rfl⟩ := List.getElem_of_mem hl
        exact HA.out j hj hj))
      have HNDT := Lib.hid (show (keysL T.labels).Nodup from by have := HND.out; rwa [List.take_length] at this)
      have HU := Lib.hid (used_tab A c xs T wr1 (HTB.out.hold hg) ⟨by omega, fun l hl => (okL_ext l T.tracks (List.all_eq_true.1 HAL.out l hl)).1⟩)
      have hxl : (extsL T.labels).length ≤ 496 := by
        have := extsL_len T.labels 16 (fun l hl => (okL_ext l T.tracks (List.all_eq_true.1 HAL.out l hl)).1)
        omega
      have HF := Lib.hid (validT_of T HHD.out HAL.out HNDT.out)
      have x0 := hb.cell 0
      clear hb hg
      go_wp2_with fail
      refine HU.out.mono ?_
      rintro e w8 ⟨A8, c8, rfl, hr8, g8⟩
      have HD := Lib.hid (refdisj_val (A := A8) (c := c8) (w := w8) rfl (by omega) hr8 _ rfl)
      clear hr8
      go_wp2_with fail
      refine HD.out.mono ?_
      rintro e w9 ⟨rfl, g9⟩
      go_wp2_with fail
      go_ret
      exact ⟨ret_bool (by rw [HF.out]), (HG.out.trans g8).trans g9⟩
end Go.Proofs.YtnlaogneceanoaaGreat
