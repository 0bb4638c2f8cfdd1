/- Chapter 8: Free, Find, New. Chapter 8: Extend and Release of chapter 6, once more: what they return is new. Chapter 8: what the changes do with a label. Chapter 8: what Replace and Confirm do with a label. Chapter 8: what Confirm does with a label. A slice of the call's own, cut to its first elements; 'clear' on the others. -/
import Derived.Laws.MakeOwn
import Derived.Laws.CopyRow
import Derived.Test.YtnlaogneceanoaaCsA
import Derived.Test.YtnlaogneceanoaaCsG
namespace Go.Proofs.Ytnlaogneceanoaa
set_option linter.unusedVariables false
set_option linter.unusedSimpArgs false
set_option linter.unusedSectionVars false
open Go.RowKit
attribute [local go_sem ↓] Go.wp_at_zero Go.wp_at_succ
theorem validT_facts (T : Tab) (h : validT T = true) : T.labels.length ≤ 31 ∧ (extsL T.labels).length ≤ 496 ∧ (∀ l ∈ T.labels, l.ext.length ≤ 16 ∧ 0 ≤ l.unit) :=
  ⟨((validT_iff T).1 h).small.1, ((validT_iff T).1 h).exts, ((validT_iff T).1 h).small.2⟩
theorem ttS_i64 (t : Int) : -9223372036854775808 ≤ ttS t ∧ ttS t ≤ 9223372036854775807 := by have := ttS_bd t; omega
set_option maxRecDepth 100000 in
set_option maxHeartbeats 4000000 in
theorem free_tab (A : Option Addr) (c : Nat) (xs : List LabE) (T : Tab) (w : World) (h : TabAt w A c xs T) (hs : SmallT T) (n : Nat) (hn : n = T.labels.length) (kf : List (Int × Int)) (hkf : freeT T = kf) :
    Calls Try.prog 23 #[.agg #[.string T.name, .int .i64 T.tracks, .slice A n c]] w fun e w' => ∃ A c, e = .returned (.slice A kf.length c) ∧ RunsAt w' w'.heap.size A kf ∧ Grew w w' := by
  subst hn; subst hkf
  have hg0 := (Grew.refl w).alloc (.cells #[.string T.name, .int .i64 T.tracks, .slice A T.labels.length c] 34)
  have HB0 := Lib.hid (Blk.new w 34 #[.string T.name, .int .i64 T.tracks, .slice A T.labels.length c] rfl)
  have HV := Lib.hid (valid_tab A c xs T _ (h.hold hg0) hs _ rfl)
  have HTB := Lib.hid h
  have HS := Lib.hid hs
  have HG0 := Lib.hid hg0
  have htr0 := h.tr0
  have htr1 := h.tr1
  clear h hs hg0
  cases hv : validT T with
  | false =>
    have HE := Lib.hid (show freeT T = [] from by unfold freeT; rw [hv]; rfl)
    have HVF := Lib.hid hv
    clear hv
    go_enter Try.func23, Try.ntmps23
    go_wp2_with fail
    refine HV.out.mono ?_
    rintro e w1 ⟨rfl, g1⟩
    rw [HVF.out]
    go_wp2_with fail
    go_ret
    exact ⟨none, 0, by rw [HE.out]; rfl, by rw [HE.out]; exact nil_runs _, HG0.out.trans g1⟩
  | true =>
    obtain ⟨hn31, hx496, hall⟩ := validT_facts T hv
    have HFR := Lib.hid (show freeS (ttS T.tracks) T.tracks (extsL T.labels) = freeT T from by unfold freeT; rw [if_pos hv])
    have HVF := Lib.hid hv
    have HAL := Lib.hid hall
    clear hv hall
    go_enter Try.func23, Try.ntmps23
    go_wp2_with fail
    refine HV.out.mono ?_
    rintro e w1 ⟨rfl, g1⟩
    rw [HVF.out]
    have hb1 := HB0.out.grew g1
    have hg1 := HG0.out.trans g1
    have x2 := hb1.cell 2
    have hl1 := hb1.lt
    clear g1
    go_wp2_with fail
    go_loopg [3, 12] T.labels.length (fun gk ov i wr => ∃ k : Nat, k ≤ T.labels.length ∧ gk = T.labels.length - k ∧ i = .int .i64 k ∧ OwnL wr w.heap.size 58 2 ov ((extsL (T.labels.take k)).map runC) ∧ Blk wr w.heap.size 34 #[.string T.name, .int .i64 T.tracks, .slice A T.labels.length c] ∧ (extsL (T.labels.take k)).length ≤ 16 * k ∧ Grew w wr)
    case atStart => exact ⟨0, by omega, by omega, rfl, OwnL.nil _ _ _ _, hb1, by simp [extsL], hg1⟩
    case round =>
      obtain ⟨k, hk, hgk, rfl, hown, hb, hxl, hg⟩ := hrel
      have HGK := Lib.hid hgk
      have HOWN := Lib.hid hown
      have HB := Lib.hid hb
      have HG := Lib.hid hg
      have hbl0 := hb.lt
      have hgs := hg.size
      clear hgk x2 hb1
      by_cases hlt : k < T.labels.length
      · obtain ⟨b, off, B, d, l, rfl, hbl, hxk, hv, hla, c0, c1, c2, c3, c4⟩ := (HTB.out.hold hg).at_ hlt
        have hle := (HAL.out T.labels[k] (List.getElem_mem hlt)).1
        rw [hv] at hle
        have hes := extsL_snoc T.labels k hlt
        rw [hv] at hes
        have HES := Lib.hid hes
        have hgl : Grew wr (wr.alloc (.cells #[.int .i64 l.id, .int .i64 l.unit, .string l.name, .string l.note, .slice B l.ext.length d] 24)) := (Grew.refl wr).alloc _
        have hr2 := ((hla.hold hgl).runs.2.mono (Nat.le_refl _))
        have hown2 := hown.alloc (.cells #[.int .i64 l.id, .int .i64 l.unit, .string l.name, .string l.note, .slice B l.ext.length d] 24)
        have hge := hown.row_ge
        have n3 := hown.ne_blk hb (by decide)
        have hb2 := hb.alloc (.cells #[.int .i64 l.id, .int .i64 l.unit, .string l.name, .string l.note, .slice B l.ext.length d] 24)
        have hg2 := hg.alloc (.cells #[.int .i64 l.id, .int .i64 l.unit, .string l.name, .string l.note, .slice B l.ext.length d] 24)
        clear hv hxk hla hes hgl hown hb hg
        go_wp2_with (at_builtin; refine wpList_pushAll (by rfl) _ _ 22 rfl w.heap.size 58 2 16 _ Try.underlying22 info_run rfl (by decide) _ _ (l.ext.map runC) (by rfl) hown2 B l.ext.length _ (by rfl) (by rw [List.length_map]) (map_one_len _) hr2 (map_one_one _) (by rw [List.length_map]; omega) (by rw [List.length_map]; omega) (by simp; omega) ?_; intro v1 w3 hown3 hgr3 hat3)
        have HO3 := Lib.hid hown3
        have HB3 := Lib.hid (hb2.own hgr3 n3)
        have HG3 := Lib.hid (hg2.own hgr3 hge (Nat.le_refl _))
        clear hown3 hgr3 hat3 hb2 hg2 hown2 hr2
        go_roundg (T.labels.length - (k + 1))
        case measure => rw [HGK.out]; omega
        case rel => exact ⟨k + 1, by omega, by omega, by go_num, by rw [HES.out, List.map_append]; exact HO3.out, HB3.out, by rw [HES.out, List.length_append]; omega, HG3.out⟩
      · have hkn : k = T.labels.length := by omega
        subst hkn
        rw [List.take_length] at hown hxl
        obtain ⟨Ar, cr, hvr, hlr, hcr, hrr⟩ := own_runsL hown (HTB.out.okruns)
        subst hvr
        have HF := Lib.hid (fun w9 (g9 : Grew wr w9) => free_val (A := Ar) (c := cr) (w := w9) rfl (by omega) (hrr.hold g9) (ttS T.tracks) T.tracks (ttS_i64 _).1 (ttS_i64 _).2 htr0 htr1 _ HFR.out)
        have hS : (fun w' : World => w'.cell? ⟨w.heap.size, 1, none⟩ = some (.int .i64 T.tracks)) wr.drew := hb.drew.cell 1
        clear hown hrr hb hg hlt
        go_wp2_with fail
        refine wp_region_R [] (fun w' : World => w'.cell? ⟨w.heap.size, 1, none⟩ = some (.int .i64 T.tracks)) (by kernel_rfl) ?_
        refine wpAnyR_takeQ (i := 0) (v := ?_) (some 21) rfl rfl (by kernel_rfl) (by kernel_rfl) (by kernel_rfl) (by kernel_rfl) (fun _ _ _ h => h) (Or.inl ⟨by rfl, ?_⟩) ?_
        rotate_left
        focus (intro wS hSw; (try dsimp only at hSw); go_simp; (try with_reducible rfl); (try (first | (rw [if_pos (by omega)]; (try go_simp); (try with_reducible rfl)) | (rw [if_neg (by omega)]; (try go_simp); (try with_reducible rfl)))))
        try simp only [Act.put, List.setIfInBounds_toArray, List.set_cons_zero, List.set_cons_succ]
        refine wpAnyR_take (i := 1) (v := ?_) [2, 6, 7] (some 22) rfl rfl (by kernel_rfl) (by kernel_rfl) (by kernel_rfl) (by kernel_rfl) (by kernel_rfl) (by kernel_rfl) (by kernel_rfl) (fun _ _ _ h => h) (Or.inl ⟨by rfl, ?_⟩) hS ?_
        rotate_left
        focus (intro wS hSw; (try dsimp only at hSw); go_simp; (try with_reducible rfl); (try (first | (rw [if_pos (by omega)]; (try go_simp); (try with_reducible rfl)) | (rw [if_neg (by omega)]; (try go_simp); (try with_reducible rfl)))))
        try simp only [Act.put, List.setIfInBounds_toArray, List.set_cons_zero, List.set_cons_succ]
        refine wpAnyR_takeQ (i := 3) (v := ?_) (some 24) rfl rfl (by kernel_rfl) (by kernel_rfl) (by kernel_rfl) (by kernel_rfl) (fun _ _ _ h => h) (Or.inl ⟨by rfl, ?_⟩) ?_
        rotate_left
        focus (intro wS hSw; (try dsimp only at hSw); go_simp; (try with_reducible rfl); (try (first | (rw [if_pos (by omega)]; (try go_simp); (try with_reducible rfl)) | (rw [if_neg (by omega)]; (try go_simp); (try with_reducible rfl)))))
        try simp only [Act.put, List.setIfInBounds_toArray, List.set_cons_zero, List.set_cons_succ]
        refine wpAnyR_take (i := 4) (v := ?_) [6, 7] (some 25) rfl rfl (by kernel_rfl) (by kernel_rfl) (by kernel_rfl) (by kernel_rfl) (by kernel_rfl) (by kernel_rfl) (by kernel_rfl) (fun _ _ _ h => h) (Or.inl ⟨by rfl, ?_⟩) hS ?_
        rotate_left
        focus (intro wS hSw; (try dsimp only at hSw); go_simp; (try with_reducible rfl); (try (first | (rw [if_pos (by omega)]; (try go_simp); (try with_reducible rfl)) | (rw [if_neg (by omega)]; (try go_simp); (try with_reducible rfl)))))
        try simp only [Act.put, List.setIfInBounds_toArray, List.set_cons_zero, List.set_cons_succ]
        refine wpAnyR_takeQ (i := 5) (v := ?_) (some 26) rfl rfl (by kernel_rfl) (by kernel_rfl) (by kernel_rfl) (by kernel_rfl) (fun _ _ _ h => h) (Or.inl ⟨by rfl, ?_⟩) ?_
        rotate_left
        focus (intro wS hSw; (try dsimp only at hSw); go_simp; (try with_reducible rfl); (try (first | (rw [if_pos (by omega)]; (try go_simp); (try with_reducible rfl)) | (rw [if_neg (by omega)]; (try go_simp); (try with_reducible rfl)))))
        try simp only [Act.put, List.setIfInBounds_toArray, List.set_cons_zero, List.set_cons_succ]
        refine wpAnyR_n1 (i := 2) rfl (by kernel_rfl) ?_
        intro K' hK
        rw [if_pos (by rfl)]
        simp only [List.getElem_toArray, List.getElem_cons_succ, List.getElem_cons_zero]
        go_wp2_with fail
        refine (table_any _ _).mono ?_
        rintro e w8 ⟨rfl, rfl⟩
        go_wp2_with fail
        refine hK.out _ _ (.inr (fun h => h)) ?_
        clear hK
        refine wpAnyR_n1 (i := 6) rfl (by kernel_rfl) ?_
        intro K' hK
        rw [if_pos (by rfl)]
        simp only [List.getElem_toArray, List.getElem_cons_succ, List.getElem_cons_zero]
        go_wp2_with fail
        refine (HF.out _ (Grew.refl wr).drew).mono ?_
        rintro e w9 ⟨A9, c9, rfl, hr9, g9⟩
        have HR9 := Lib.hid hr9
        clear hr9
        go_wp2_with fail
        refine hK.out _ _ (.inr (fun h => (HB.out.drew.grew g9).cell 1)) ?_
        clear hK
        refine wpAnyR_takeQ (i := 7) (v := ?_) (some 2) rfl rfl (by kernel_rfl) (by kernel_rfl) (by kernel_rfl) (by kernel_rfl) (fun _ _ _ h => h) (Or.inl ⟨by rfl, ?_⟩) ?_
        rotate_left
        focus (intro wS hSw; (try dsimp only at hSw); go_simp; (try with_reducible rfl); (try (first | (rw [if_pos (by omega)]; (try go_simp); (try with_reducible rfl)) | (rw [if_neg (by omega)]; (try go_simp); (try with_reducible rfl)))))
        try simp only [Act.put, List.setIfInBounds_toArray, List.set_cons_zero, List.set_cons_succ]
        refine wpAnyR_done (by kernel_rfl) ?_ _
        go_wp2_with fail
        go_ret
        exact ⟨A9, c9, rfl, HR9.out, HG.out.drew.trans g9⟩
def fndT (T : Tab) (id unit : Int) : Lab × Bool := if 0 ≤ idxT T id unit then (T.labels.getD (idxT T id unit).toNat labZ, true) else (labZ, false)
theorem fndT_cases (T : Tab) (id unit : Int) : (∃ (k : Nat) (hk : k < T.labels.length), idxT T id unit = (k : Int) ∧ fndT T id unit = (T.labels[k], true) ∧ hitL id unit T.labels[k] = true) ∨ (idxT T id unit = -1 ∧ fndT T id unit = (labZ, false) ∧ ∀ l ∈ T.labels, hitL id unit l = false) := by
  rcases idxP_cases (hitL id unit) T.labels with ⟨k, hk, h1, h2, _⟩ | ⟨h1, h2⟩
  · have h1' : idxT T id unit = (k : Int) := h1
    refine .inl ⟨k, hk, h1', ?_, h2⟩
    unfold fndT
    rw [h1', if_pos (by omega), Int.toNat_natCast, List.getD_eq_getElem?_getD, List.getElem?_eq_getElem hk]
    rfl
  · have h1' : idxT T id unit = -1 := h1
    refine .inr ⟨h1', ?_, h2⟩
    unfold fndT
    rw [h1', if_neg (by omega)]
set_option maxRecDepth 100000 in
set_option maxHeartbeats 4000000 in
theorem find_tab (A : Option Addr) (c : Nat) (xs : List LabE) (T : Tab) (w : World) (h : TabAt w A c xs T) (hs : SmallT T) (n : Nat) (hn : n = T.labels.length) (id unit : Int) (l : Lab) (ok : Bool) (hf : fndT T id unit = (l, ok)) :
    Calls Try.prog 14 #[.agg #[.string T.name, .int .i64 T.tracks, .slice A n c], .agg #[.int .i64 id, .int .i64 unit]] w fun e w' => ∃ B d, e = .returned (.tuple #[.agg #[.int .i64 l.id, .int .i64 l.unit, .string l.name, .string l.note, .slice B l.ext.length d], .bool ok]) ∧ LabAt w' B d l ∧ Grew w w' := by
  subst hn
  have hg0 := (((Grew.refl w).alloc (.cells #[.string T.name, .int .i64 T.tracks, .slice A T.labels.length c] 34)).alloc (.cells #[.int .i64 id, .int .i64 unit] 37)).alloc (.cells #[.int .i64 0, .int .i64 0, .string ⟨#[]⟩, .string ⟨#[]⟩, .slice none 0 0] 24)
  have hb0 := ((Blk.new w 34 #[.string T.name, .int .i64 T.tracks, .slice A T.labels.length c] rfl).alloc (.cells #[.int .i64 id, .int .i64 unit] 37)).alloc (.cells #[.int .i64 0, .int .i64 0, .string ⟨#[]⟩, .string ⟨#[]⟩, .slice none 0 0] 24)
  have hz0 := Blk.new ((w.alloc (.cells #[.string T.name, .int .i64 T.tracks, .slice A T.labels.length c] 34)).alloc (.cells #[.int .i64 id, .int .i64 unit] 37)) 24 #[.int .i64 0, .int .i64 0, .string ⟨#[]⟩, .string ⟨#[]⟩, .slice none 0 0] (n := w.heap.size + 1 + 1) (by simp)
  have HC := Lib.hid (fun k hk => cindex_any A c xs T id unit _ (h.hold hg0) hs _ rfl k hk)
  have HTB := Lib.hid h
  have HS := Lib.hid hs
  have HG0 := Lib.hid hg0
  have HB0 := Lib.hid hb0
  have HZ0 := Lib.hid hz0
  clear h hs hg0 hb0 hz0
  rcases fndT_cases T id unit with ⟨k, hk, h1, h2, _⟩ | ⟨h1, h2, _⟩
  · rw [h2] at hf
    injection hf with hf1 hf2
    subst hf2
    have HI := Lib.hid (HC.out _ h1)
    have HF1 := Lib.hid hf1
    have hle := HS.out.ext T.labels[k] (List.getElem_mem hk)
    rw [hf1] at hle
    clear HC h1 h2 hf1
    go_enter Try.func14, Try.ntmps14
    go_wp2_with fail
    refine HI.out.mono ?_
    rintro e w1 ⟨rfl, g1⟩
    have hb1 := HB0.out.grew g1
    have hg1 := HG0.out.trans g1
    have hz1 := HZ0.out.grew g1
    have x2 := hb1.cell 2
    have hl1 := hb1.lt
    have hl2 := hz1.lt
    have hkn : (k : Int) < (T.labels.length : Int) := by omega
    obtain ⟨b, off, B, d, l', rfl, hbl, hxk, hv, hla, c0, c1, c2, c3, c4⟩ := (HTB.out.hold hg1).at_ hk
    rw [HF1.out] at hv
    subst hv
    have hgl : Grew w1 (w1.alloc (.cells #[.int .i64 l.id, .int .i64 l.unit, .string l.name, .string l.note, .slice B l.ext.length d] 24)) := (Grew.refl w1).alloc _
    have HCL := Lib.hid (clone_runs B d l.ext.length l.ext _ rfl (by omega) (hla.hold hgl).runs.2)
    have HLA := Lib.hid (hla.hold hgl)
    have HNB := Lib.hid (Blk.new w1 24 #[.int .i64 l.id, .int .i64 l.unit, .string l.name, .string l.note, .slice B l.ext.length d] rfl)
    have HG1 := Lib.hid (hg1.trans hgl)
    have HZ1 := Lib.hid (hz1.grew hgl)
    clear g1 hb1 hg1 hz1 hla hgl hxk
    go_wp2_with fail
    refine HCL.out.mono ?_
    rintro e w2 ⟨v2, rfl, hown2, g2⟩
    obtain ⟨A2, c2', rfl, hl2c, hc2, hr2⟩ := own_runsL hown2 HLA.out.runs.1
    have hnb := HNB.out.grew g2
    have hzb := HZ1.out.grew g2
    have hg2 := HG1.out.trans g2
    have y0 := hnb.cell 0
    have y1 := hnb.cell 1
    have y2 := hnb.cell 2
    have y3 := hnb.cell 3
    have y4 := hnb.cell 4
    have yf := hnb.frozen 4
    have hnl := hnb.lt
    have z0 := hzb.cell 0
    have z1 := hzb.cell 1
    have z2 := hzb.cell 2
    have z3 := hzb.cell 3
    have z4 := hzb.cell 4
    have f0 := hzb.frozen 0
    have f1 := hzb.frozen 1
    have f2 := hzb.frozen 2
    have f3 := hzb.frozen 3
    have f4 := hzb.frozen 4
    have hzl := hzb.lt
    have hz9 := hg2.size
    have hz8 : w.heap.size + 1 + 1 < w1.heap.size := hl2
    have HL2 := Lib.hid (show LabAt w2 A2 c2' l from ⟨HLA.out.id0, HLA.out.id1, HLA.out.unit0, HLA.out.unit1, HLA.out.name, HLA.out.note, hr2, hl2c, hc2⟩)
    have HGG := Lib.hid hg2
    have HFA := Lib.hid (show ∀ b off, A2 = some ⟨b, off, none⟩ → w1.heap.size + 1 ≤ b from fun b off e => by have := (hown2.own_ge (by rw [e]; rfl)).1; simpa using this)
    clear hown2 hr2 hnb hzb g2 hg2 c0 c1 c2 c3 c4 x2
    go_wp2_with fail
    refine bodyPost_ret (by first | (simp [*, results, Try.results14, go_sem]; rfl) | simp [*, results, Try.results14, go_sem]) rfl ?_
    exact ⟨_, _, rfl, HL2.out.turned (S := fun k => k < w1.heap.size + 1) (by (repeat' first | (with_reducible exact Turned.refl _ _) | (with_reducible assumption) | (with_reducible refine Turned.alloc ?_ _) | (with_reducible refine Turned.drew ?_) | (with_reducible refine Turned.drewN ?_ _) | (with_reducible refine Turned.setRow ?_ (by first | (simp; done) | (simp; omega) | omega) _) | (with_reducible refine Turned.setCell ?_ (by first | (simp; done) | (simp; omega) | omega) _) | ((with_reducible apply Turned.andGrew); rotate_left; (with_reducible assumption)) | ((with_reducible apply Turned.trans); rotate_left; (with_reducible assumption)) | fail)) (fun _ b off e => by have := HFA.out b off e; omega), by have hg := HGG.out; (repeat' first | (with_reducible exact Grew.refl _) | (with_reducible assumption) | (with_reducible refine Grew.alloc ?_ _) | (with_reducible refine Grew.drew ?_) | (with_reducible refine Grew.drewN ?_ _) | (with_reducible refine Grew.setRow ?_ (by first | (simp; done) | (simp; omega) | omega) _) | (with_reducible refine Grew.setCell ?_ (by first | (simp; done) | (simp; omega) | omega) _) | ((with_reducible apply Grew.trans); rotate_left; (with_reducible assumption)) | ((with_reducible apply Grew.turn); rotate_left; (with_reducible assumption); (focus (intro i hi; first | omega | (simp at hi; omega)))) | fail)⟩
  · rw [h2] at hf
    injection hf with hf1 hf2
    subst hf2; subst hf1
    have HI := Lib.hid (HC.out _ h1)
    clear HC h1 h2
    go_enter Try.func14, Try.ntmps14
    go_wp2_with fail
    refine HI.out.mono ?_
    rintro e w1 ⟨rfl, g1⟩
    have hzb := HZ0.out.grew g1
    have z0 := hzb.cell 0
    have z1 := hzb.cell 1
    have z2 := hzb.cell 2
    have z3 := hzb.cell 3
    have z4 := hzb.cell 4
    have f0 := hzb.frozen 0
    have f1 := hzb.frozen 1
    have f2 := hzb.frozen 2
    have f3 := hzb.frozen 3
    have f4 := hzb.frozen 4
    have hzl := hzb.lt
    have hg1 := HG0.out.trans g1
    clear hzb g1
    go_wp2_with fail
    refine bodyPost_ret (by first | (simp [*, results, Try.results14, go_sem]; rfl) | simp [*, results, Try.results14, go_sem]) rfl ?_
    exact ⟨none, 0, rfl, LabAt.zero _, by (repeat' first | (with_reducible exact Grew.refl _) | (with_reducible assumption) | (with_reducible refine Grew.alloc ?_ _) | (with_reducible refine Grew.drew ?_) | (with_reducible refine Grew.drewN ?_ _) | (with_reducible refine Grew.setRow ?_ (by first | (simp; done) | (simp; omega) | omega) _) | (with_reducible refine Grew.setCell ?_ (by first | (simp; done) | (simp; omega) | omega) _) | ((with_reducible apply Grew.trans); rotate_left; (with_reducible assumption)) | ((with_reducible apply Grew.turn); rotate_left; (with_reducible assumption); (focus (intro i hi; first | omega | (simp at hi; omega)))) | fail)⟩
def newT (s : ByteArray) (t : Int) : Tab × Int := if okT t = true ∧ nameOk s = true then (⟨s, t, List.replicate (slotsS t).toNat labZ⟩, 0) else (tabZ, 1)
theorem slots_nat (t : Int) : ((slotsS t).toNat : Int) = slotsS t ∧ (slotsS t).toNat ≤ 31 := by
  have := ttS_bd t
  unfold slotsS
  omega
theorem made_labs (w : World) (n : Nat) (hn : n ≤ 1000) : (Instr.makeSlice 32 (.int .i64 (n : Int)) (.int .i64 (n : Int))).run Try.prog w = .ok (.slice (some ⟨w.heap.size, 0, none⟩) n n) (w.alloc (.cells (madeCells #[.int .i64 0, .int .i64 0, .string ⟨#[]⟩, .string ⟨#[]⟩, .slice none 0 0] (n * 5)) 24)) := by
  obtain ⟨i, hi, hz0, hz1, hz2⟩ : ∃ i, Try.prog.info? 24 = some i ∧ i.zero = some (.agg #[.int .i64 0, .int .i64 0, .string ⟨#[]⟩, .string ⟨#[]⟩, .slice none 0 0]) ∧ i.size = 5 ∧ i.bytes = 72 := by
    have h := info_lab
    cases hq : Try.prog.info? 24 with
    | none => rw [hq] at h; cases h
    | some i => rw [hq] at h; simp at h; exact ⟨i, rfl, h.1, h.2.1, h.2.2⟩
  have h := run_make (P := Try.prog) w 32 24 i _ Try.underlying32 hi hz0 .i64 .i64 (n : Int) (n : Int) (by omega) (by omega) (by rw [hz2]; omega) (by omega)
  rw [hz1] at h
  simp only [Int.toNat_natCast] at h
  exact h
theorem made_tab (w : World) (n : Nat) (s : ByteArray) (t : Int) (hs : s.size ≤ 9223372036854775807) (t0 : -9223372036854775808 ≤ t) (t1 : t ≤ 9223372036854775807) (hn : n ≤ 1000) {g : Nat} (hgw : g = w.heap.size) {w' : World} (hw : Grew (w.alloc (.cells (madeCells #[.int .i64 0, .int .i64 0, .string ⟨#[]⟩, .string ⟨#[]⟩, .slice none 0 0] (n * 5)) 24)) w') :
    TabAt w' (some ⟨g, 0, none⟩) n (List.replicate n ⟨none, 0, labZ⟩) ⟨s, t, List.replicate n labZ⟩ := by
  subst hgw
  refine TabAt.hold ?_ hw
  refine ⟨fun x hx => by rw [List.eq_of_mem_replicate hx]; exact LabAt.zero _, fun h0 => ⟨w.heap.size, 0, rfl, by simp, fun j cs hj i v hi => ?_⟩, by simp, by omega, by simp, t0, t1, hs⟩
  rw [List.map_replicate, List.getElem?_replicate] at hj
  split at hj
  · rename_i hjn
    injection hj with hj
    subst hj
    have hi5 : i < 5 := (List.getElem?_eq_some_iff.1 hi).1
    rw [(Blk.new w 24 _ rfl).cell]
    unfold madeCells
    rw [Nat.zero_add, Array.getElem?_map, Array.getElem?_range, if_pos (by omega)]
    simp only [Option.map_some]
    have hm : (j * 5 + i) % 5 = i := by omega
    have h5 : (#[Value.int .i64 0, .int .i64 0, .string ⟨#[]⟩, .string ⟨#[]⟩, .slice none 0 0] : Array Value).size = 5 := rfl
    rw [h5, hm]
    match i, hi5 with
    | 0, _ => exact hi
    | 1, _ => exact hi
    | 2, _ => exact hi
    | 3, _ => exact hi
    | 4, _ => exact hi
  · cases hj
set_option maxRecDepth 100000 in
set_option maxHeartbeats 4000000 in
theorem new_tab (s : ByteArray) (t : Int) (w : World) (hs : s.size ≤ 9223372036854775807) (t0 : -9223372036854775808 ≤ t) (t1 : t ≤ 9223372036854775807) (T : Tab) (er : Int) (hT : newT s t = (T, er)) :
    Calls Try.prog 21 #[.string s, .int .i64 t] w fun e w' => ∃ A c xs, e = .returned (.tuple #[.agg #[.string T.name, .int .i64 T.tracks, .slice A T.labels.length c], .int .i64 er]) ∧ TabAt w' A c xs T ∧ Grew w w' := by
  have hz0 := Blk.new w 34 #[.string ⟨#[]⟩, .int .i64 0, .slice none 0 0] rfl
  have hG := (Grew.refl w).alloc (.cells #[.string ⟨#[]⟩, .int .i64 0, .slice none 0 0] 34)
  have z0 := hz0.cell 0
  have z1 := hz0.cell 1
  have z2 := hz0.cell 2
  have f0 := hz0.frozen 0
  have f1 := hz0.frozen 1
  have f2 := hz0.frozen 2
  by_cases ho : okT t = true
  rotate_left
  · unfold newT at hT
    rw [if_neg (fun h => ho h.1)] at hT
    injection hT with h1 h2
    subst h1; subst h2
    have HT0 := Lib.hid (show ttS t = 0 from by unfold ttS; rw [if_neg ho])
    clear ho
    go_enter Try.func21, Try.ntmps21
    go_wp2_with fail
    refine (table_any _ _).mono ?_
    rintro e w1 ⟨rfl, rfl⟩
    rw [HT0.out]
    go_wp2_with fail
    refine bodyPost_ret (by first | (simp [*, results, Try.results21, go_sem]; rfl) | simp [*, results, Try.results21, go_sem]) rfl ?_
    exact ⟨none, 0, [], rfl, TabAt.zero _, by (repeat' first | (with_reducible exact Grew.refl _) | (with_reducible assumption) | (with_reducible refine Grew.alloc ?_ _) | (with_reducible refine Grew.drew ?_) | (with_reducible refine Grew.drewN ?_ _) | (with_reducible refine Grew.setRow ?_ (by first | (simp; done) | (simp; omega) | omega) _) | (with_reducible refine Grew.setCell ?_ (by first | (simp; done) | (simp; omega) | omega) _) | ((with_reducible apply Grew.trans); rotate_left; (with_reducible assumption)) | ((with_reducible apply Grew.turn); rotate_left; (with_reducible assumption); (focus (intro i hi; first | omega | (simp at hi; omega)))) | fail)⟩
  obtain ⟨tt, htt⟩ : ∃ tt, ttS t = tt := ⟨_, rfl⟩
  have HT0 := Lib.hid htt
  have hz : (tt == 0) = false := by
    rw [beq_eq_false_iff_ne, ← htt]
    unfold ttS
    have := okT_true ho
    rw [if_pos ho]
    omega
  clear htt
  cases hn : nameOk s with
  | false =>
    unfold newT at hT
    rw [if_neg (fun h => by rw [hn] at h; cases h.2)] at hT
    injection hT with h1 h2
    subst h1; subst h2
    have HN := Lib.hid hn
    clear ho hn
    go_enter Try.func21, Try.ntmps21
    go_wp2_with fail
    refine (table_any _ _).mono ?_
    rintro e w1 ⟨rfl, rfl⟩
    rw [HT0.out]
    go_wp2_with fail
    refine (validName_any _ _ hs).mono ?_
    rintro e w1 ⟨rfl, rfl⟩
    rw [HN.out]
    go_wp2_with fail
    refine bodyPost_ret (by first | (simp [*, results, Try.results21, go_sem]; rfl) | simp [*, results, Try.results21, go_sem]) rfl ?_
    exact ⟨none, 0, [], rfl, TabAt.zero _, by (repeat' first | (with_reducible exact Grew.refl _) | (with_reducible assumption) | (with_reducible refine Grew.alloc ?_ _) | (with_reducible refine Grew.drew ?_) | (with_reducible refine Grew.drewN ?_ _) | (with_reducible refine Grew.setRow ?_ (by first | (simp; done) | (simp; omega) | omega) _) | (with_reducible refine Grew.setCell ?_ (by first | (simp; done) | (simp; omega) | omega) _) | ((with_reducible apply Grew.trans); rotate_left; (with_reducible assumption)) | ((with_reducible apply Grew.turn); rotate_left; (with_reducible assumption); (focus (intro i hi; first | omega | (simp at hi; omega)))) | fail)⟩
  | true =>
    unfold newT at hT
    rw [if_pos ⟨ho, hn⟩] at hT
    injection hT with h1 h2
    subst h1; subst h2
    obtain ⟨h1, h2⟩ := slots_nat t
    have HN := Lib.hid hn
    generalize (slotsS t).toNat = m at *
    have HSL := Lib.hid h1.symm
    have hmk := fun w => made_labs w m (by omega)
    have hml : (List.replicate m labZ).length = m := List.length_replicate
    have HMT := Lib.hid (fun w0 g hg => made_tab w0 m s t hs t0 t1 (by omega) (g := g) hg (Grew.refl _))
    have HML := Lib.hid hml
    clear ho hn h1 hml
    go_enter Try.func21, Try.ntmps21
    go_wp2_with fail
    refine (table_any _ _).mono ?_
    rintro e w1 ⟨rfl, rfl⟩
    rw [HT0.out]
    go_wp2_with fail
    refine (validName_any _ _ hs).mono ?_
    rintro e w1 ⟨rfl, rfl⟩
    rw [HN.out]
    go_wp2_with fail
    refine (slots_any _ _).mono ?_
    rintro e w1 ⟨rfl, rfl⟩
    rw [HSL.out]
    go_wp2_with fail
    refine bodyPost_ret (by first | (simp [*, results, Try.results21, go_sem]; rfl) | simp [*, results, Try.results21, go_sem]) rfl ?_
    exact ⟨_, _, _, by rw [HML.out], HMT.out _ _ (by simp), by (repeat' first | (with_reducible exact Grew.refl _) | (with_reducible assumption) | (with_reducible refine Grew.alloc ?_ _) | (with_reducible refine Grew.drew ?_) | (with_reducible refine Grew.drewN ?_ _) | (with_reducible refine Grew.setRow ?_ (by first | (simp; done) | (simp; omega) | omega) _) | (with_reducible refine Grew.setCell ?_ (by first | (simp; done) | (simp; omega) | omega) _) | ((with_reducible apply Grew.trans); rotate_left; (with_reducible assumption)) | ((with_reducible apply Grew.turn); rotate_left; (with_reducible assumption); (focus (intro i hi; first | omega | (simp at hi; omega)))) | fail)⟩
end Go.Proofs.Ytnlaogneceanoaa
namespace Go.Proofs.Ytnlaogneceanoaa
set_option linter.unusedVariables false
set_option linter.unusedSimpArgs false
set_option linter.unusedSectionVars false
open Go.RowKit
/-- Runs in a slice that is newer than w. -/
def NewRuns (w w' : World) (A : Option Addr) (c : Nat) (k : List (Int × Int)) : Prop := RunsAt w' w'.heap.size A k ∧ k.length ≤ c ∧ c ≤ 9223372036854775807 ∧ ∀ b off, A = some ⟨b, off, none⟩ → w.heap.size ≤ b
theorem NewRuns.nil (w w' : World) : NewRuns w w' none 0 [] := ⟨nil_runs w', Nat.le_refl _, by omega, fun b off e => by cases e⟩
theorem NewRuns.of_own {w w' : World} {v : Value} {l : List (Nat × Nat)} {k : List (Int × Int)} (h : OwnL w' w.heap.size 58 2 v (l.map rowN)) (hb : ∀ r ∈ l, r.1 + r.2 ≤ 128) (hk : ints l = k) : ∃ A c, v = .slice A k.length c ∧ NewRuns w w' A c k := by
  obtain ⟨A, c, hv, hr, h1, h2, h3⟩ := own_runs2 h (fun r hr => Nat.le_trans (hb r hr) (by omega))
  subst hk
  exact ⟨A, c, by rw [ints_len]; exact hv, hr, by rw [ints_len]; exact h1, h2, fun b off e => (h3 b off e).1⟩
section
variable {A : Option Addr} {c m : Nat} {l : List (Int × Int)} {w : World}
theorem alloc_new (hn : m = l.length) (hl : l.length ≤ 1000000) (hr : RunsAt w w.heap.size A l) (n : Int) (n0 : -9223372036854775808 ≤ n) (n1 : n ≤ 9223372036854775807) (most : Int) (k : List (Int × Int)) (er : Int) (hk : ints (allocS (memS l) n most).1 = k) (he : (allocS (memS l) n most).2 = er) :
    Calls Try.prog 66 #[.slice A m c, .int .i64 n, .int .i64 most] w fun e w' => ∃ A c, e = .returned (.tuple #[.slice A k.length c, .int .i64 er]) ∧ NewRuns w w' A c k ∧ Grew w w' := by
  subst hn; subst he
  refine (alloc_any A c l w w.heap.size (Nat.le_refl _) hl hr n n0 n1 most).mono ?_
  rintro e w1 ⟨v, rfl, hown, g1⟩
  obtain ⟨A', c', hv, hr'⟩ := NewRuns.of_own hown (alloc_bd _ _ _) hk
  exact ⟨A', c', by rw [hv], hr', g1⟩
theorem NewRuns.hold {w w1 w2 : World} {k : List (Int × Int)} (h : NewRuns w w1 A c k) (hg : Grew w1 w2) : NewRuns w w2 A c k := ⟨h.1.hold hg, h.2⟩
end
end Go.Proofs.Ytnlaogneceanoaa
namespace Go.Proofs.Ytnlaogneceanoaa
set_option linter.unusedVariables false
set_option linter.unusedSimpArgs false
set_option linter.unusedSectionVars false
open Go.RowKit
attribute [local go_sem ↓] Go.wp_at_zero Go.wp_at_succ
def chCon (T : Tab) (id : Int) (note : ByteArray) (k : Nat) (l : Lab) : List Lab × Int :=
  if l.unit = 0 then (T.labels, 9) else if 400 < note.size then (T.labels, 1)
  else ((if 0 ≤ idxT T id 0 then T.labels.set (idxT T id 0).toNat labZ else T.labels).set k { l with unit := 0, note := note }, 0)
def chgT (T : Tab) (id unit : Int) (F : Nat → Lab → List Lab × Int) : Tab × Int :=
  if validT T = true then
    if 0 ≤ idxT T id unit then
      (if (F (idxT T id unit).toNat (T.labels.getD (idxT T id unit).toNat labZ)).2 = 0 then ({ T with labels := (F (idxT T id unit).toNat (T.labels.getD (idxT T id unit).toNat labZ)).1 }, 0) else (tabZ, (F (idxT T id unit).toNat (T.labels.getD (idxT T id unit).toNat labZ)).2))
    else (tabZ, 6)
  else (tabZ, 1)
/-- Where a changed table lies while it is changed: its labels in block g, the variable itself in block xo. -/
structure OutAt (w w1 : World) (base g cap xo : Nat) (ys : List LabE) (T : Tab) : Prop where
  grew : Grew w w1
  hg : w.heap.size ≤ g
  hx : w.heap.size ≤ xo
  ne : xo ≠ g
  tab : TabO w1 base (.slice (some ⟨g, 0, none⟩) T.labels.length cap) ys T.labels
  blk : Blk w1 xo 34 #[.string T.name, .int .i64 T.tracks, .slice (some ⟨g, 0, none⟩) T.labels.length cap]
/-- A closure's contract: it makes labels and an error of a label. -/
def ChgR (w1 : World) (base g cap n : Nat) (r : List Lab × Int) (e : Ending) (w2 : World) : Prop :=
  e = .returned (.int .i64 r.2) ∧ (∃ ys, TabO w2 base (.slice (some ⟨g, 0, none⟩) n cap) ys r.1) ∧ Turned (fun x => x = g) w1 w2
theorem TabO.row {w : World} {base g n cap : Nat} {ys : List LabE} {ls : List Lab} (h : TabO w base (.slice (some ⟨g, 0, none⟩) n cap) ys ls) {k : Nat} (hk : k < ls.length) :
    ∃ B d, (ys.map labC)[k]? = some (labC ⟨B, d, ls[k]⟩) ∧ LabAt w B d ls[k] ∧ (0 < ls[k].ext.length → ∀ b off, B = some ⟨b, off, none⟩ → b ≠ g) ∧ ys[k]? = some ⟨B, d, ls[k]⟩ := by
  have hy : k < ys.length := by rw [h.len]; exact hk
  have h1 : (ys.map (·.l))[k]? = some ys[k].l := by rw [List.getElem?_map, List.getElem?_eq_getElem hy]; rfl
  rw [h.eq, List.getElem?_eq_getElem hk] at h1
  have h2 := Option.some.inj h1
  have h3 : ys[k] = ⟨ys[k].A, ys[k].c, ls[k]⟩ := by rw [h2]
  refine ⟨ys[k].A, ys[k].c, by rw [List.getElem?_map, List.getElem?_eq_getElem hy, ← h3]; rfl, by rw [h2]; exact h.lab _ (List.getElem_mem hy), fun h0 b off e => ?_, by rw [List.getElem?_eq_getElem hy, ← h3]⟩
  have := h.far ys[k] (List.getElem_mem hy) (by rw [← h2]; exact h0) b off e
  intro e2
  exact this (by rw [e2]; rfl)
theorem OwnL.cell0 {w : World} {base e sz g n cap : Nat} {rows : List (List Value)} (h : OwnL w base e sz (.slice (some ⟨g, 0, none⟩) n cap) rows) {j : Nat} {r : List Value} {u : Value} (hj : rows[j]? = some r) (hi : r[0]? = some u) : w.cell? ⟨g, j * sz, none⟩ = some u := h.cell hj hi
theorem OwnL.block_lt {w : World} {base e sz g n cap : Nat} {rows : List (List Value)} (h : OwnL w base e sz (.slice (some ⟨g, 0, none⟩) n cap) rows) : base ≤ g ∧ g < w.heap.size := h.own_ge rfl
theorem set_turned (w : World) (g o : Nat) (u : Value) : Turned (fun x => x = g) w (w.setCell ⟨g, o, none⟩ u) := (Turned.refl (fun x => x = g) w).setCell (p := ⟨g, o, none⟩) (fun _ => rfl) u
/-- One cell of one label is another one now. -/
theorem TabO.field {w : World} {base g n cap : Nat} {ys : List LabE} {ls : List Lab} (h : TabO w base (.slice (some ⟨g, 0, none⟩) n cap) ys ls) {k : Nat} (hk : k < ls.length) {B : Option Addr} {d : Nat} (hrow : (ys.map labC)[k]? = some (labC ⟨B, d, ls[k]⟩)) (i : Nat) (hi : i < 5) (u : Value) (y : LabE) (hy : labC y = (labC ⟨B, d, ls[k]⟩).set i u)
    (hl : LabAt w y.A y.c y.l) (hf : 0 < y.l.ext.length → ∀ b off, y.A = some ⟨b, off, none⟩ → b ≠ g) : TabO (w.setCell ⟨g, k * 5 + i, none⟩ u) base (.slice (some ⟨g, 0, none⟩) n cap) (ys.set k y) (ls.set k y.l) :=
  h.set_ k y hk (by rw [hy]; exact h.own.set_ hrow hi rfl u) (set_turned w g _ u) (hl.turned (set_turned w g _ u) (fun h0 b off e => hf h0 b off e)) hf
theorem TabO.after {w : World} {base g n cap : Nat} {ys : List LabE} {ls : List Lab} {k : Nat} {y : LabE} (hk : k < ys.length) : ((ys.set k y).map labC)[k]? = some (labC y) := by
  rw [List.getElem?_map, List.getElem?_set_self hk]; rfl
/-- A whole label of the own slice is stored anew, cell by cell. -/
theorem OwnL.set5 {w : World} {base e g n cap : Nat} {rows : List (List Value)} (h : OwnL w base e 5 (.slice (some ⟨g, 0, none⟩) n cap) rows) {j : Nat} {r : List Value} (hj : rows[j]? = some r) (a b c d f : Value) :
    OwnL (((((w.setCell ⟨g, j * 5, none⟩ a).setCell ⟨g, j * 5 + 1, none⟩ b).setCell ⟨g, j * 5 + 2, none⟩ c).setCell ⟨g, j * 5 + 3, none⟩ d).setCell ⟨g, j * 5 + 4, none⟩ f) base e 5 (.slice (some ⟨g, 0, none⟩) n cap) (rows.set j [a, b, c, d, f]) := by
  have hl : r.length = 5 := h.1 r (List.mem_of_getElem? hj)
  have hlt : j < rows.length := (List.getElem?_eq_some_iff.1 hj).1
  have h0 := h.set_ (i := 0) (o := j * 5) hj (by omega) rfl a
  have h1 := h0.set_ (i := 1) (o := j * 5 + 1) (List.getElem?_set_self hlt) (by omega) rfl b
  rw [List.set_set] at h1
  have h2 := h1.set_ (i := 2) (o := j * 5 + 2) (List.getElem?_set_self hlt) (by omega) rfl c
  rw [List.set_set] at h2
  have h3 := h2.set_ (i := 3) (o := j * 5 + 3) (List.getElem?_set_self hlt) (by omega) rfl d
  rw [List.set_set] at h3
  have h4 := h3.set_ (i := 4) (o := j * 5 + 4) (List.getElem?_set_self hlt) (by omega) rfl f
  rw [List.set_set] at h4
  match r, hl with
  | [r0, r1, r2, r3, r4], _ => exact h4
theorem set5_turned (w : World) (g o : Nat) (a b c d f : Value) : Turned (fun x => x = g) w (((((w.setCell ⟨g, o, none⟩ a).setCell ⟨g, o + 1, none⟩ b).setCell ⟨g, o + 2, none⟩ c).setCell ⟨g, o + 3, none⟩ d).setCell ⟨g, o + 4, none⟩ f) :=
  ((((set_turned w g _ a).trans (set_turned _ g _ b)).trans (set_turned _ g _ c)).trans (set_turned _ g _ d)).trans (set_turned _ g _ f)
theorem TabO.set5 {w : World} {base g n cap : Nat} {ys : List LabE} {ls : List Lab} (h : TabO w base (.slice (some ⟨g, 0, none⟩) n cap) ys ls) {k : Nat} (hk : k < ls.length) (y : LabE)
    (hl : LabAt w y.A y.c y.l) (hf : 0 < y.l.ext.length → ∀ b off, y.A = some ⟨b, off, none⟩ → b ≠ g) :
    TabO (((((w.setCell ⟨g, k * 5, none⟩ (.int .i64 y.l.id)).setCell ⟨g, k * 5 + 1, none⟩ (.int .i64 y.l.unit)).setCell ⟨g, k * 5 + 2, none⟩ (.string y.l.name)).setCell ⟨g, k * 5 + 3, none⟩ (.string y.l.note)).setCell ⟨g, k * 5 + 4, none⟩ (.slice y.A y.l.ext.length y.c)) base (.slice (some ⟨g, 0, none⟩) n cap) (ys.set k y) (ls.set k y.l) := by
  obtain ⟨B, d, hrow, _, _, _⟩ := h.row hk
  exact h.set_ k y hk (h.own.set5 hrow _ _ _ _ _) (set5_turned w g _ _ _ _ _ _) (hl.turned (set5_turned w g _ _ _ _ _ _) (fun h0 b off e => hf h0 b off e)) hf
section
variable (w w1 : World) (base g cap xo : Nat) (ys : List LabE) (T : Tab) (k : Nat) (hk : k < T.labels.length) (h : OutAt w w1 base g cap xo ys T)
include h
end
end Go.Proofs.Ytnlaogneceanoaa
namespace Go.Proofs.Ytnlaogneceanoaa
set_option linter.unusedVariables false
set_option linter.unusedSimpArgs false
set_option linter.unusedSectionVars false
open Go.RowKit
attribute [local go_sem ↓] Go.wp_at_zero Go.wp_at_succ
theorem TabO.row0 {w : World} {base g n cap : Nat} {ys : List LabE} {ls : List Lab} (h : TabO w base (.slice (some ⟨g, 0, none⟩) n cap) ys ls) {k : Nat} (hk : k < ls.length) : w.cell? ⟨g, k * 5, none⟩ = some (.int .i64 ls[k].id) := by
  obtain ⟨B, d, hrow, _, _, _⟩ := h.row hk
  exact h.own.cell0 hrow rfl
theorem TabO.row1 {w : World} {base g n cap : Nat} {ys : List LabE} {ls : List Lab} (h : TabO w base (.slice (some ⟨g, 0, none⟩) n cap) ys ls) {k : Nat} (hk : k < ls.length) : w.cell? ⟨g, k * 5 + 1, none⟩ = some (.int .i64 ls[k].unit) := by
  obtain ⟨B, d, hrow, _, _, _⟩ := h.row hk
  exact h.own.cell hrow (i := 1) rfl
theorem TabO.row3 {w : World} {base g n cap : Nat} {ys : List LabE} {ls : List Lab} (h : TabO w base (.slice (some ⟨g, 0, none⟩) n cap) ys ls) {k : Nat} (hk : k < ls.length) : w.cell? ⟨g, k * 5 + 3, none⟩ = some (.string ls[k].note) := by
  obtain ⟨B, d, hrow, _, _, _⟩ := h.row hk
  exact h.own.cell hrow (i := 3) rfl
theorem TabO.unit_ {w : World} {base g n cap : Nat} {ys : List LabE} {ls : List Lab} (h : TabO w base (.slice (some ⟨g, 0, none⟩) n cap) ys ls) {k : Nat} (hk : k < ls.length) (u : Int) (hu : -9223372036854775808 ≤ u ∧ u ≤ 9223372036854775807) : ∃ ys', TabO (w.setCell ⟨g, k * 5 + 1, none⟩ (.int .i64 u)) base (.slice (some ⟨g, 0, none⟩) n cap) ys' (ls.set k { ls[k] with unit := u }) := by
  obtain ⟨B, d, hrow, hla, hfar, _⟩ := h.row hk
  exact ⟨_, h.field hk hrow 1 (by decide) (.int .i64 u) ⟨B, d, { ls[k] with unit := u }⟩ rfl ⟨hla.id0, hla.id1, hu.1, hu.2, hla.name, hla.note, hla.runs, hla.len, hla.cap⟩ hfar⟩
theorem TabO.note_ {w : World} {base g n cap : Nat} {ys : List LabE} {ls : List Lab} (h : TabO w base (.slice (some ⟨g, 0, none⟩) n cap) ys ls) {k : Nat} (hk : k < ls.length) (u : ByteArray) (hu : u.size ≤ 9223372036854775807) : ∃ ys', TabO (w.setCell ⟨g, k * 5 + 3, none⟩ (.string u)) base (.slice (some ⟨g, 0, none⟩) n cap) ys' (ls.set k { ls[k] with note := u }) := by
  obtain ⟨B, d, hrow, hla, hfar, _⟩ := h.row hk
  exact ⟨_, h.field hk hrow 3 (by decide) (.string u) ⟨B, d, { ls[k] with note := u }⟩ rfl ⟨hla.id0, hla.id1, hla.unit0, hla.unit1, hla.name, hu, hla.runs, hla.len, hla.cap⟩ hfar⟩
theorem TabO.tabAt {w : World} {base g n cap : Nat} {ys : List LabE} {ls : List Lab} (h : TabO w base (.slice (some ⟨g, 0, none⟩) n cap) ys ls) (nm : ByteArray) (t : Int) (hn : nm.size ≤ 9223372036854775807) (t0 : -9223372036854775808 ≤ t) (t1 : t ≤ 9223372036854775807) : TabAt w (some ⟨g, 0, none⟩) cap ys ⟨nm, t, ls⟩ := by
  obtain ⟨A, c, hv, ht⟩ := h.form
  injection hv with h1 _ h3
  rw [h1, h3]
  exact ht nm t hn t0 t1
section
variable (w w1 : World) (base g cap xo : Nat) (ys : List LabE) (T : Tab) (k : Nat) (hk : k < T.labels.length) (h : OutAt w w1 base g cap xo ys T)
include h
end
end Go.Proofs.Ytnlaogneceanoaa
namespace Go.Proofs.Ytnlaogneceanoaa
set_option linter.unusedVariables false
set_option linter.unusedSimpArgs false
set_option linter.unusedSectionVars false
open Go.RowKit
attribute [local go_sem ↓] Go.wp_at_zero Go.wp_at_succ
theorem TabO.drew {w : World} {base : Nat} {v : Value} {ys : List LabE} {ls : List Lab} (h : TabO w base v ys ls) : TabO w.drew base v ys ls := h.hold (Grew.refl w).drew
section
variable (w w1 : World) (base g cap xo : Nat) (ys : List LabE) (T : Tab) (k : Nat) (hk : k < T.labels.length) (h : OutAt w w1 base g cap xo ys T)
include h
set_option maxRecDepth 100000 in
set_option maxHeartbeats 8000000 in
theorem confirm1_any (hs : SmallT T) (hn0 : T.name.size ≤ 9223372036854775807) (ht0 : -9223372036854775808 ≤ T.tracks) (ht1 : T.tracks ≤ 9223372036854775807) (note : ByteArray) (hns : note.size ≤ 9223372036854775807) (id unit : Int) (gn gr : Nat) (hbn : Blk w gn 9 #[.string note]) (hbr : Blk w gr 37 #[.int .i64 id, .int .i64 unit]) :
    Calls Try.prog 38 #[.pointer (some ⟨g, k * 5, none⟩), .pointer (some ⟨xo, 0, none⟩), .pointer (some ⟨gn, 0, none⟩), .pointer (some ⟨gr, 0, none⟩)] w1 (ChgR w1 base g cap T.labels.length (chCon T id note k T.labels[k])) := by
  have hbn1 := hbn.grew h.grew
  have hbr1 := hbr.grew h.grew
  have hg1 := h.tab.own.block_lt.2
  have hxo := h.blk.lt
  have hgn := hbn1.lt
  have hgr := hbr1.lt
  have hne := h.ne
  have hgng : ¬ gn = g := by have := h.hg; have := hbn.lt; omega
  have hgrg : ¬ gr = g := by have := h.hg; have := hbr.lt; omega
  have y0 : w1.cell? ⟨g, k * 5, none⟩ = some (.int .i64 T.labels[k].id) := h.tab.row0 hk
  have y1 : w1.cell? ⟨g, k * 5 + 1, none⟩ = some (.int .i64 T.labels[k].unit) := h.tab.row1 hk
  have n0 := hbn1.cell 0
  have r0 := hbr1.cell 0
  have HTAB := Lib.hid h.tab
  have HBO := Lib.hid h.blk
  have HBN := Lib.hid hbn1
  have HBR := Lib.hid hbr1
  have HC := Lib.hid (show chCon T id note k T.labels[k] = if T.labels[k].unit = 0 then (T.labels, 9) else if 400 < note.size then (T.labels, 1)
  else ((if 0 ≤ idxT T id 0 then T.labels.set (idxT T id 0).toNat labZ else T.labels).set k { T.labels[k] with unit := 0, note := note }, 0) from rfl)
  have hxs := h.blk
  clear h hbn hbr hbn1 hbr1
  cases hu : (T.labels[k].unit == 0) with
  | true =>
    have HE := Lib.hid (HC.out.trans (if_pos (by simpa using hu)))
    clear hxs
    go_enter Try.func38, Try.ntmps38
    go_wp2_with fail
    go_ret
    rw [HE.out]
    exact ⟨rfl, ⟨_, HTAB.out⟩, by (repeat' first | (with_reducible exact Turned.refl _ _) | (with_reducible assumption) | (with_reducible refine Turned.alloc ?_ _) | (with_reducible refine Turned.drew ?_) | (with_reducible refine Turned.drewN ?_ _) | (with_reducible refine Turned.setRow ?_ (by first | (simp; done) | (simp; omega) | omega) _) | (with_reducible refine Turned.setCell ?_ (by first | (simp; done) | (simp; omega) | omega) _) | ((with_reducible apply Turned.andGrew); rotate_left; (with_reducible assumption)) | ((with_reducible apply Turned.trans); rotate_left; (with_reducible assumption)) | fail)⟩
  | false =>
    have hu' : T.labels[k].unit ≠ 0 := by simpa using hu
    by_cases hn : 400 < note.size
    · have HE := Lib.hid (HC.out.trans (by rw [if_neg hu', if_pos hn]))
      have hni : (note.size : Int) > 400 := by omega
      clear hxs
      go_enter Try.func38, Try.ntmps38
      go_wp2_with fail
      go_ret
      rw [HE.out]
      exact ⟨rfl, ⟨_, HTAB.out⟩, by (repeat' first | (with_reducible exact Turned.refl _ _) | (with_reducible assumption) | (with_reducible refine Turned.alloc ?_ _) | (with_reducible refine Turned.drew ?_) | (with_reducible refine Turned.drewN ?_ _) | (with_reducible refine Turned.setRow ?_ (by first | (simp; done) | (simp; omega) | omega) _) | (with_reducible refine Turned.setCell ?_ (by first | (simp; done) | (simp; omega) | omega) _) | ((with_reducible apply Turned.andGrew); rotate_left; (with_reducible assumption)) | ((with_reducible apply Turned.trans); rotate_left; (with_reducible assumption)) | fail)⟩
    have hni : ¬ (note.size : Int) > 400 := by omega
    obtain ⟨ix, hix⟩ : ∃ ix, idxT T id 0 = ix := ⟨_, rfl⟩
    have hTA := HTAB.out.tabAt T.name T.tracks hn0 ht0 ht1
    have HIX := Lib.hid (fun w2 (g2 : Grew w1 w2) => cindex_any _ _ _ T id 0 w2 (hTA.hold g2) hs T.labels.length rfl ix hix)
    have hS : (fun w' : World => w'.cell? ⟨xo, 0, none⟩ = some (.string T.name) ∧ w'.cell? ⟨xo, 1, none⟩ = some (.int .i64 T.tracks) ∧ w'.cell? ⟨xo, 2, none⟩ = some (.slice (some ⟨g, 0, none⟩) T.labels.length cap) ∧ w'.cell? ⟨gr, 0, none⟩ = some (.int .i64 id)) w1.drew := ⟨hxs.drew.cell 0, hxs.drew.cell 1, hxs.drew.cell 2, r0⟩
    rcases idxP_cases (hitL id 0) T.labels with ⟨j, hj, hj1, hj2, _⟩ | ⟨hj1, _⟩
    · have hij : ix = (j : Int) := hix.symm.trans hj1
      obtain ⟨_, _, hj3⟩ := (hitL_iff _ _ _).1 hj2
      have hjk : j ≠ k := by rintro rfl; exact hu' hj3
      subst hij
      have HE := Lib.hid (HC.out.trans (by rw [if_neg hu', if_neg hn, if_pos (by rw [hix]; omega), hix, Int.toNat_natCast]))
      have hjn : (j : Int) < (T.labels.length : Int) := by omega
      have HLK := Lib.hid (show (T.labels.set j labZ)[k]'(by simpa using hk) = T.labels[k] from List.getElem_set_ne hjk _)
      clear hix hTA hj1 hj2 hxs hu'
      go_enter Try.func38, Try.ntmps38
      go_wp2_with fail
      refine wp_region_R [] (fun w' : World => w'.cell? ⟨xo, 0, none⟩ = some (.string T.name) ∧ w'.cell? ⟨xo, 1, none⟩ = some (.int .i64 T.tracks) ∧ w'.cell? ⟨xo, 2, none⟩ = some (.slice (some ⟨g, 0, none⟩) T.labels.length cap) ∧ w'.cell? ⟨gr, 0, none⟩ = some (.int .i64 id)) (by kernel_rfl) ?_
      refine wpAnyR_takeQ (i := 0) (v := ?_) (some 16) rfl rfl (by kernel_rfl) (by kernel_rfl) (by kernel_rfl) (by kernel_rfl) (fun _ _ _ h => h) (Or.inl ⟨by rfl, ?_⟩) ?_
      rotate_left
      focus (intro wS hSw; (try dsimp only at hSw); go_simp; (try with_reducible rfl); (try (first | (rw [if_pos (by omega)]; (try go_simp); (try with_reducible rfl)) | (rw [if_neg (by omega)]; (try go_simp); (try with_reducible rfl)))))
      try simp only [Act.put, List.setIfInBounds_toArray, List.set_cons_zero, List.set_cons_succ]
      refine wpAnyR_take (i := 1) (v := ?_) [2, 6, 7] (some 17) rfl rfl (by kernel_rfl) (by kernel_rfl) (by kernel_rfl) (by kernel_rfl) (by kernel_rfl) (by kernel_rfl) (by kernel_rfl) (fun _ _ _ h => h) (Or.inl ⟨by rfl, ?_⟩) hS ?_
      rotate_left
      focus (intro wS hSw; (try dsimp only at hSw); go_simp; (try with_reducible rfl); (try (first | (rw [if_pos (by omega)]; (try go_simp); (try with_reducible rfl)) | (rw [if_neg (by omega)]; (try go_simp); (try with_reducible rfl)))))
      try simp only [Act.put, List.setIfInBounds_toArray, List.set_cons_zero, List.set_cons_succ]
      refine wpAnyR_take (i := 2) (v := ?_) [6, 7] (some 18) rfl rfl (by kernel_rfl) (by kernel_rfl) (by kernel_rfl) (by kernel_rfl) (by kernel_rfl) (by kernel_rfl) (by kernel_rfl) (fun _ _ _ h => h) (Or.inl ⟨by rfl, ?_⟩) hS ?_
      rotate_left
      focus (intro wS hSw; (try dsimp only at hSw); go_simp; (try with_reducible rfl); (try (first | (rw [if_pos (by omega)]; (try go_simp); (try with_reducible rfl)) | (rw [if_neg (by omega)]; (try go_simp); (try with_reducible rfl)))))
      try simp only [Act.put, List.setIfInBounds_toArray, List.set_cons_zero, List.set_cons_succ]
      refine wpAnyR_takeQ (i := 3) (v := ?_) (some 19) rfl rfl (by kernel_rfl) (by kernel_rfl) (by kernel_rfl) (by kernel_rfl) (fun _ _ _ h => h) (Or.inl ⟨by rfl, ?_⟩) ?_
      rotate_left
      focus (intro wS hSw; (try dsimp only at hSw); go_simp; (try with_reducible rfl); (try (first | (rw [if_pos (by omega)]; (try go_simp); (try with_reducible rfl)) | (rw [if_neg (by omega)]; (try go_simp); (try with_reducible rfl)))))
      try simp only [Act.put, List.setIfInBounds_toArray, List.set_cons_zero, List.set_cons_succ]
      refine wpAnyR_take (i := 4) (v := ?_) [5, 6, 7] (some 20) rfl rfl (by kernel_rfl) (by kernel_rfl) (by kernel_rfl) (by kernel_rfl) (by kernel_rfl) (by kernel_rfl) (by kernel_rfl) (fun _ _ _ h => h) (Or.inl ⟨by rfl, ?_⟩) hS ?_
      rotate_left
      focus (intro wS hSw; (try dsimp only at hSw); go_simp; (try with_reducible rfl); (try (first | (rw [if_pos (by omega)]; (try go_simp); (try with_reducible rfl)) | (rw [if_neg (by omega)]; (try go_simp); (try with_reducible rfl)))))
      try simp only [Act.put, List.setIfInBounds_toArray, List.set_cons_zero, List.set_cons_succ]
      refine wpAnyR_takeQ (i := 5) (v := ?_) (some 21) rfl rfl (by kernel_rfl) (by kernel_rfl) (by kernel_rfl) (by kernel_rfl) (fun _ _ _ h => h) (Or.inl ⟨by rfl, ?_⟩) ?_
      rotate_left
      focus (intro wS hSw; (try dsimp only at hSw); go_simp; (try with_reducible rfl); (try (first | (rw [if_pos (by omega)]; (try go_simp); (try with_reducible rfl)) | (rw [if_neg (by omega)]; (try go_simp); (try with_reducible rfl)))))
      try simp only [Act.put, List.setIfInBounds_toArray, List.set_cons_zero, List.set_cons_succ]
      refine wpAnyR_n1 (i := 6) rfl (by kernel_rfl) ?_
      intro K' hK
      rw [if_pos (by rfl)]
      simp only [List.getElem_toArray, List.getElem_cons_succ, List.getElem_cons_zero]
      go_wp2_with fail
      refine (HIX.out _ (Grew.refl w1).drew).mono ?_
      rintro e w2 ⟨rfl, g2⟩
      have g2' : Grew w1 w2 := (Grew.refl w1).drew.trans g2
      go_wp2_with fail
      refine hK.out _ _ (.inr (fun h => by
        simp only [g2'.cellEq _ _ hxo, g2'.cellEq _ _ hgr]
        exact hS)) ?_
      clear hK hS
      refine wpAnyR_takeQ (i := 7) (v := ?_) (some 7) rfl rfl (by kernel_rfl) (by kernel_rfl) (by kernel_rfl) (by kernel_rfl) (fun _ _ _ h => h) (Or.inl ⟨by rfl, ?_⟩) ?_
      rotate_left
      focus (intro wS hSw; (try dsimp only at hSw); go_simp; (try with_reducible rfl); (try (first | (rw [if_pos (by omega)]; (try go_simp); (try with_reducible rfl)) | (rw [if_neg (by omega)]; (try go_simp); (try with_reducible rfl)))))
      try simp only [Act.put, List.setIfInBounds_toArray, List.set_cons_zero, List.set_cons_succ]
      refine wpAnyR_done (by kernel_rfl) ?_ _
      have o2 := HBO.out.grew g2'
      have u0 := o2.cell 0
      have u1 := o2.cell 1
      have u2 := o2.cell 2
      have hxl2 := o2.lt
      have ht2 := HTAB.out.hold g2'
      obtain ⟨B2, d2, hrow2, _, _, _⟩ := ht2.row hj
      have a0 : w2.cell? ⟨g, j * 5, none⟩ = some (.int .i64 T.labels[j].id) := ht2.own.cell0 hrow2 rfl
      have a1 : w2.cell? ⟨g, j * 5 + 1, none⟩ = some (.int .i64 T.labels[j].unit) := ht2.own.cell hrow2 (i := 1) rfl
      have a2 : w2.cell? ⟨g, j * 5 + 2, none⟩ = some (.string T.labels[j].name) := ht2.own.cell hrow2 (i := 2) rfl
      have a3 : w2.cell? ⟨g, j * 5 + 3, none⟩ = some (.string T.labels[j].note) := ht2.own.cell hrow2 (i := 3) rfl
      have a4 : w2.cell? ⟨g, j * 5 + 4, none⟩ = some (.slice B2 T.labels[j].ext.length d2) := ht2.own.cell hrow2 (i := 4) rfl
      have af0 := ht2.own.frozen (j * 5)
      have af1 := ht2.own.frozen (j * 5 + 1)
      have af2 := ht2.own.frozen (j * 5 + 2)
      have af3 := ht2.own.frozen (j * 5 + 3)
      have af4 := ht2.own.frozen (j * 5 + 4)
      have HT3 := Lib.hid (ht2.set5 hj ⟨none, 0, labZ⟩ (LabAt.zero _) (fun h0 => absurd h0 (by decide)))
      have HTU3 := Lib.hid ((g2'.turned (fun x => x = g)).trans (set5_turned w2 g (j * 5) (.int .i64 0) (.int .i64 0) (.string ⟨#[]⟩) (.string ⟨#[]⟩) (.slice none 0 0)))
      have HB2 := Lib.hid (HBN.out.grew g2')
      clear ht2 hrow2 o2
      go_wp2_with fail
      obtain ⟨W, hW⟩ : ∃ W, W = ((((w2.setCell ⟨g, j * 5, none⟩ (.int .i64 0)).setCell ⟨g, j * 5 + 1, none⟩ (.int .i64 0)).setCell ⟨g, j * 5 + 2, none⟩ (.string ⟨#[]⟩)).setCell ⟨g, j * 5 + 3, none⟩ (.string ⟨#[]⟩)).setCell ⟨g, j * 5 + 4, none⟩ (.slice none 0 0) := ⟨_, rfl⟩
      rw [← hW]
      obtain ⟨ys3, HT3'⟩ : ∃ ys3, TabO W base (.slice (some ⟨g, 0, none⟩) T.labels.length cap) ys3 (T.labels.set j labZ) := ⟨_, by rw [hW]; exact HT3.out⟩
      have HTW : Turned (fun x => x = g) w1 W := by rw [hW]; exact HTU3.out
      have HBW : Blk W gn 9 #[.string note] := HBN.out.turned HTW hgng
      have hk' : k < (T.labels.set j labZ).length := by simpa using hk
      have hk2 : (T.labels.set j labZ)[k]'hk' = T.labels[k] := by first | exact HLK.out | rfl
      have ht3 := HT3'
      have z0 : W.cell? ⟨g, k * 5, none⟩ = some (.int .i64 T.labels[k].id) := by rw [← hk2]; exact ht3.row0 hk'
      have z1 : W.cell? ⟨g, k * 5 + 1, none⟩ = some (.int .i64 T.labels[k].unit) := by rw [← hk2]; exact ht3.row1 hk'
      have zf1 := ht3.own.frozen (k * 5 + 1)
      have hg3 := ht3.own.block_lt.2
      obtain ⟨ys4, ht4⟩ := ht3.drew.unit_ hk' 0 (by omega)
      have hk4 : k < ((T.labels.set j labZ).set k { (T.labels.set j labZ)[k]'hk' with unit := 0 }).length := by simpa using hk
      have hk5 : ((T.labels.set j labZ).set k { (T.labels.set j labZ)[k]'hk' with unit := 0 })[k]'hk4 = { T.labels[k] with unit := 0 } := by rw [List.getElem_set_self, hk2]
      have HZ0 := Lib.hid (show (World.setCell W.drew ⟨g, k * 5 + 1, none⟩ (.int .i64 0)).cell? ⟨g, k * 5, none⟩ = some (.int .i64 T.labels[k].id) from by have := ht4.row0 hk4; rwa [hk5] at this)
      have z3 : (World.setCell W.drew ⟨g, k * 5 + 1, none⟩ (.int .i64 0)).cell? ⟨g, k * 5 + 3, none⟩ = some (.string T.labels[k].note) := by have := ht4.row3 hk4; rwa [hk5] at this
      have y3 : W.cell? ⟨g, k * 5 + 3, none⟩ = some (.string T.labels[k].note) := by rw [← hk2]; exact ht3.row3 hk'
      have zf3 := ht3.own.frozen (k * 5 + 3)
      obtain ⟨ys5, ht5⟩ := ht4.note_ hk4 note hns
      have HT5 := Lib.hid (show ∃ ys, TabO _ base (.slice (some ⟨g, 0, none⟩) T.labels.length cap) ys ((T.labels.set j labZ).set k { T.labels[k] with unit := 0, note := note }) from ⟨ys5, by rw [hk5, List.set_set] at ht5; exact ht5⟩)
      have HTU := Lib.hid (((HTW).drew.trans (set_turned _ g (k * 5 + 1) (.int .i64 0))).trans (set_turned _ g (k * 5 + 3) (.string note)))
      have HB3 := Lib.hid (HBW)
      have hgn3 := HB3.out.lt
      have b3 := HB3.out.cell 0
      clear ht3 ht4 ht5 hk5
      clear a0 a1 a2 a3 a4 af0 af1 af2 af3 af4 hW HT3' HTW HBW u0 u1 u2 y0 y1 n0 r0 HT3 HTU3 HB2
      refine wp_region_R [8] (fun w' : World => w'.cell? ⟨gn, 0, none⟩ = some (.string note) ∧ w'.cell? ⟨g, k * 5, none⟩ = some (.int .i64 T.labels[k].id)) (by kernel_rfl) ?_
      have hS : (fun w' : World => w'.cell? ⟨gn, 0, none⟩ = some (.string note) ∧ w'.cell? ⟨g, k * 5, none⟩ = some (.int .i64 T.labels[k].id)) (World.drew _) := ⟨HB3.out.drew.cell 0, z0⟩
      refine wpAnyR_takeQ (i := 0) (v := ?_) (some 32) rfl rfl (by kernel_rfl) (by kernel_rfl) (by kernel_rfl) (by kernel_rfl) (fun _ _ _ h => h) (Or.inl ⟨by rfl, ?_⟩) ?_
      rotate_left
      focus (intro wS hSw; (try dsimp only at hSw); go_simp; (try with_reducible rfl); (try (first | (rw [if_pos (by omega)]; (try go_simp); (try with_reducible rfl)) | (rw [if_neg (by omega)]; (try go_simp); (try with_reducible rfl)))))
      try simp only [Act.put, List.setIfInBounds_toArray, List.set_cons_zero, List.set_cons_succ]
      refine wpAnyR_takeQ (i := 1) (v := ?_) (some 33) rfl rfl (by kernel_rfl) (by kernel_rfl) (by kernel_rfl) (by kernel_rfl) (fun _ _ _ h => h) (Or.inl ⟨by rfl, ?_⟩) ?_
      rotate_left
      focus (intro wS hSw; (try dsimp only at hSw); go_simp; (try with_reducible rfl); (try (first | (rw [if_pos (by omega)]; (try go_simp); (try with_reducible rfl)) | (rw [if_neg (by omega)]; (try go_simp); (try with_reducible rfl)))))
      try simp only [Act.put, List.setIfInBounds_toArray, List.set_cons_zero, List.set_cons_succ]
      refine wpAnyR_take (i := 2) (v := ?_) [6, 7, 8] (some 34) rfl rfl (by kernel_rfl) (by kernel_rfl) (by kernel_rfl) (by kernel_rfl) (by kernel_rfl) (by kernel_rfl) (by kernel_rfl) (fun _ _ _ h => h) (Or.inl ⟨by rfl, ?_⟩) hS ?_
      rotate_left
      focus (intro wS hSw; (try dsimp only at hSw); go_simp; (try with_reducible rfl); (try (first | (rw [if_pos (by omega)]; (try go_simp); (try with_reducible rfl)) | (rw [if_neg (by omega)]; (try go_simp); (try with_reducible rfl)))))
      try simp only [Act.put, List.setIfInBounds_toArray, List.set_cons_zero, List.set_cons_succ]
      refine wpAnyR_take (i := 3) (v := ?_) [4, 5, 6, 7, 8] (some 35) rfl rfl (by kernel_rfl) (by kernel_rfl) (by kernel_rfl) (by kernel_rfl) (by kernel_rfl) (by kernel_rfl) (by kernel_rfl) (fun _ _ _ h => h) (Or.inl ⟨by rfl, ?_⟩) hS ?_
      rotate_left
      focus (intro wS hSw; (try dsimp only at hSw); go_simp; (try with_reducible rfl); (try (first | (rw [if_pos (by omega)]; (try go_simp); (try with_reducible rfl)) | (rw [if_neg (by omega)]; (try go_simp); (try with_reducible rfl)))))
      try simp only [Act.put, List.setIfInBounds_toArray, List.set_cons_zero, List.set_cons_succ]
      refine wpAnyR_takeQ (i := 4) (v := ?_) (some 36) rfl rfl (by kernel_rfl) (by kernel_rfl) (by kernel_rfl) (by kernel_rfl) (fun _ _ _ h => h) (Or.inl ⟨by rfl, ?_⟩) ?_
      rotate_left
      focus (intro wS hSw; (try dsimp only at hSw); go_simp; (try with_reducible rfl); (try (first | (rw [if_pos (by omega)]; (try go_simp); (try with_reducible rfl)) | (rw [if_neg (by omega)]; (try go_simp); (try with_reducible rfl)))))
      try simp only [Act.put, List.setIfInBounds_toArray, List.set_cons_zero, List.set_cons_succ]
      refine wpAnyR_n1 (i := 5) rfl (by kernel_rfl) ?_
      intro K' hK
      rw [if_pos (by rfl)]
      simp only [List.getElem_toArray, List.getElem_cons_succ, List.getElem_cons_zero]
      go_wp2_with fail
      refine hK.out _ _ (.inr (fun h => ⟨(HB3.out.drew.far (p := ⟨g, k * 5 + 1, none⟩) hgng (.int .i64 0)).cell 0, HZ0.out⟩)) ?_
      clear hK hS
      have hS : (fun w' : World => w'.cell? ⟨gn, 0, none⟩ = some (.string note) ∧ w'.cell? ⟨g, k * 5, none⟩ = some (.int .i64 T.labels[k].id)) (W.setCell ⟨g, k * 5 + 1, none⟩ (.int .i64 0)).drew := ⟨(HB3.out.drew.far (p := ⟨g, k * 5 + 1, none⟩) hgng (.int .i64 0)).cell 0, HZ0.out⟩
      refine wpAnyR_take (i := 6) (v := ?_) [7, 8] (some 37) rfl rfl (by kernel_rfl) (by kernel_rfl) (by kernel_rfl) (by kernel_rfl) (by kernel_rfl) (by kernel_rfl) (by kernel_rfl) (fun _ _ _ h => h) (Or.inl ⟨by rfl, ?_⟩) hS ?_
      rotate_left
      focus (intro wS hSw; (try dsimp only at hSw); go_simp; (try with_reducible rfl); (try (first | (rw [if_pos (by omega)]; (try go_simp); (try with_reducible rfl)) | (rw [if_neg (by omega)]; (try go_simp); (try with_reducible rfl)))))
      try simp only [Act.put, List.setIfInBounds_toArray, List.set_cons_zero, List.set_cons_succ]
      refine wpAnyR_takeQ (i := 7) (v := ?_) (some 38) rfl rfl (by kernel_rfl) (by kernel_rfl) (by kernel_rfl) (by kernel_rfl) (fun _ _ _ h => h) (Or.inl ⟨by rfl, ?_⟩) ?_
      rotate_left
      focus (intro wS hSw; (try dsimp only at hSw); go_simp; (try with_reducible rfl); (try (first | (rw [if_pos (by omega)]; (try go_simp); (try with_reducible rfl)) | (rw [if_neg (by omega)]; (try go_simp); (try with_reducible rfl)))))
      try simp only [Act.put, List.setIfInBounds_toArray, List.set_cons_zero, List.set_cons_succ]
      refine wpAnyR_n1 (i := 8) rfl (by kernel_rfl) ?_
      intro K' hK
      rw [if_pos (by rfl)]
      simp only [List.getElem_toArray, List.getElem_cons_succ, List.getElem_cons_zero]
      go_wp2_with fail
      refine hK.out _ _ (.inl rfl) ?_
      clear hK
      refine wpAnyR_done (by kernel_rfl) ?_ _
      go_wp2_with fail
      go_ret
      rw [HE.out]
      exact ⟨rfl, HT5.out, HTU.out⟩
    · have hij : ix = -1 := hix.symm.trans hj1
      subst hij
      have HE := Lib.hid (HC.out.trans (by rw [if_neg hu', if_neg hn, if_neg (by rw [hix]; omega)]))
      have HLK := Lib.hid (show (T.labels)[k]'(by simpa using hk) = T.labels[k] from rfl)
      clear hix hTA hj1 hxs hu'
      go_enter Try.func38, Try.ntmps38
      go_wp2_with fail
      refine wp_region_R [] (fun w' : World => w'.cell? ⟨xo, 0, none⟩ = some (.string T.name) ∧ w'.cell? ⟨xo, 1, none⟩ = some (.int .i64 T.tracks) ∧ w'.cell? ⟨xo, 2, none⟩ = some (.slice (some ⟨g, 0, none⟩) T.labels.length cap) ∧ w'.cell? ⟨gr, 0, none⟩ = some (.int .i64 id)) (by kernel_rfl) ?_
      refine wpAnyR_takeQ (i := 0) (v := ?_) (some 16) rfl rfl (by kernel_rfl) (by kernel_rfl) (by kernel_rfl) (by kernel_rfl) (fun _ _ _ h => h) (Or.inl ⟨by rfl, ?_⟩) ?_
      rotate_left
      focus (intro wS hSw; (try dsimp only at hSw); go_simp; (try with_reducible rfl); (try (first | (rw [if_pos (by omega)]; (try go_simp); (try with_reducible rfl)) | (rw [if_neg (by omega)]; (try go_simp); (try with_reducible rfl)))))
      try simp only [Act.put, List.setIfInBounds_toArray, List.set_cons_zero, List.set_cons_succ]
      refine wpAnyR_take (i := 1) (v := ?_) [2, 6, 7] (some 17) rfl rfl (by kernel_rfl) (by kernel_rfl) (by kernel_rfl) (by kernel_rfl) (by kernel_rfl) (by kernel_rfl) (by kernel_rfl) (fun _ _ _ h => h) (Or.inl ⟨by rfl, ?_⟩) hS ?_
      rotate_left
      focus (intro wS hSw; (try dsimp only at hSw); go_simp; (try with_reducible rfl); (try (first | (rw [if_pos (by omega)]; (try go_simp); (try with_reducible rfl)) | (rw [if_neg (by omega)]; (try go_simp); (try with_reducible rfl)))))
      try simp only [Act.put, List.setIfInBounds_toArray, List.set_cons_zero, List.set_cons_succ]
      refine wpAnyR_take (i := 2) (v := ?_) [6, 7] (some 18) rfl rfl (by kernel_rfl) (by kernel_rfl) (by kernel_rfl) (by kernel_rfl) (by kernel_rfl) (by kernel_rfl) (by kernel_rfl) (fun _ _ _ h => h) (Or.inl ⟨by rfl, ?_⟩) hS ?_
      rotate_left
      focus (intro wS hSw; (try dsimp only at hSw); go_simp; (try with_reducible rfl); (try (first | (rw [if_pos (by omega)]; (try go_simp); (try with_reducible rfl)) | (rw [if_neg (by omega)]; (try go_simp); (try with_reducible rfl)))))
      try simp only [Act.put, List.setIfInBounds_toArray, List.set_cons_zero, List.set_cons_succ]
      refine wpAnyR_takeQ (i := 3) (v := ?_) (some 19) rfl rfl (by kernel_rfl) (by kernel_rfl) (by kernel_rfl) (by kernel_rfl) (fun _ _ _ h => h) (Or.inl ⟨by rfl, ?_⟩) ?_
      rotate_left
      focus (intro wS hSw; (try dsimp only at hSw); go_simp; (try with_reducible rfl); (try (first | (rw [if_pos (by omega)]; (try go_simp); (try with_reducible rfl)) | (rw [if_neg (by omega)]; (try go_simp); (try with_reducible rfl)))))
      try simp only [Act.put, List.setIfInBounds_toArray, List.set_cons_zero, List.set_cons_succ]
      refine wpAnyR_take (i := 4) (v := ?_) [5, 6, 7] (some 20) rfl rfl (by kernel_rfl) (by kernel_rfl) (by kernel_rfl) (by kernel_rfl) (by kernel_rfl) (by kernel_rfl) (by kernel_rfl) (fun _ _ _ h => h) (Or.inl ⟨by rfl, ?_⟩) hS ?_
      rotate_left
      focus (intro wS hSw; (try dsimp only at hSw); go_simp; (try with_reducible rfl); (try (first | (rw [if_pos (by omega)]; (try go_simp); (try with_reducible rfl)) | (rw [if_neg (by omega)]; (try go_simp); (try with_reducible rfl)))))
      try simp only [Act.put, List.setIfInBounds_toArray, List.set_cons_zero, List.set_cons_succ]
      refine wpAnyR_takeQ (i := 5) (v := ?_) (some 21) rfl rfl (by kernel_rfl) (by kernel_rfl) (by kernel_rfl) (by kernel_rfl) (fun _ _ _ h => h) (Or.inl ⟨by rfl, ?_⟩) ?_
      rotate_left
      focus (intro wS hSw; (try dsimp only at hSw); go_simp; (try with_reducible rfl); (try (first | (rw [if_pos (by omega)]; (try go_simp); (try with_reducible rfl)) | (rw [if_neg (by omega)]; (try go_simp); (try with_reducible rfl)))))
      try simp only [Act.put, List.setIfInBounds_toArray, List.set_cons_zero, List.set_cons_succ]
      refine wpAnyR_n1 (i := 6) rfl (by kernel_rfl) ?_
      intro K' hK
      rw [if_pos (by rfl)]
      simp only [List.getElem_toArray, List.getElem_cons_succ, List.getElem_cons_zero]
      go_wp2_with fail
      refine (HIX.out _ (Grew.refl w1).drew).mono ?_
      rintro e W ⟨rfl, g2⟩
      have g2' : Grew w1 W := (Grew.refl w1).drew.trans g2
      go_wp2_with fail
      refine hK.out _ _ (.inr (fun h => by
        simp only [g2'.cellEq _ _ hxo, g2'.cellEq _ _ hgr]
        exact hS)) ?_
      clear hK hS
      refine wpAnyR_takeQ (i := 7) (v := ?_) (some 7) rfl rfl (by kernel_rfl) (by kernel_rfl) (by kernel_rfl) (by kernel_rfl) (fun _ _ _ h => h) (Or.inl ⟨by rfl, ?_⟩) ?_
      rotate_left
      focus (intro wS hSw; (try dsimp only at hSw); go_simp; (try with_reducible rfl); (try (first | (rw [if_pos (by omega)]; (try go_simp); (try with_reducible rfl)) | (rw [if_neg (by omega)]; (try go_simp); (try with_reducible rfl)))))
      try simp only [Act.put, List.setIfInBounds_toArray, List.set_cons_zero, List.set_cons_succ]
      refine wpAnyR_done (by kernel_rfl) ?_ _
      have hk' : k < (T.labels).length := by simpa using hk
      have hk2 : (T.labels)[k]'hk' = T.labels[k] := by first | exact HLK.out | rfl
      have ht3 := HTAB.out.hold g2'
      have z0 : W.cell? ⟨g, k * 5, none⟩ = some (.int .i64 T.labels[k].id) := by rw [← hk2]; exact ht3.row0 hk'
      have z1 : W.cell? ⟨g, k * 5 + 1, none⟩ = some (.int .i64 T.labels[k].unit) := by rw [← hk2]; exact ht3.row1 hk'
      have zf1 := ht3.own.frozen (k * 5 + 1)
      have hg3 := ht3.own.block_lt.2
      obtain ⟨ys4, ht4⟩ := ht3.drew.unit_ hk' 0 (by omega)
      have hk4 : k < ((T.labels).set k { (T.labels)[k]'hk' with unit := 0 }).length := by simpa using hk
      have hk5 : ((T.labels).set k { (T.labels)[k]'hk' with unit := 0 })[k]'hk4 = { T.labels[k] with unit := 0 } := by rw [List.getElem_set_self, hk2]
      have HZ0 := Lib.hid (show (World.setCell W.drew ⟨g, k * 5 + 1, none⟩ (.int .i64 0)).cell? ⟨g, k * 5, none⟩ = some (.int .i64 T.labels[k].id) from by have := ht4.row0 hk4; rwa [hk5] at this)
      have z3 : (World.setCell W.drew ⟨g, k * 5 + 1, none⟩ (.int .i64 0)).cell? ⟨g, k * 5 + 3, none⟩ = some (.string T.labels[k].note) := by have := ht4.row3 hk4; rwa [hk5] at this
      have y3 : W.cell? ⟨g, k * 5 + 3, none⟩ = some (.string T.labels[k].note) := by rw [← hk2]; exact ht3.row3 hk'
      have zf3 := ht3.own.frozen (k * 5 + 3)
      obtain ⟨ys5, ht5⟩ := ht4.note_ hk4 note hns
      have HT5 := Lib.hid (show ∃ ys, TabO _ base (.slice (some ⟨g, 0, none⟩) T.labels.length cap) ys ((T.labels).set k { T.labels[k] with unit := 0, note := note }) from ⟨ys5, by rw [hk5, List.set_set] at ht5; exact ht5⟩)
      have HTU := Lib.hid (((g2'.turned (fun x => x = g)).drew.trans (set_turned _ g (k * 5 + 1) (.int .i64 0))).trans (set_turned _ g (k * 5 + 3) (.string note)))
      have HB3 := Lib.hid (HBN.out.grew g2')
      have hgn3 := HB3.out.lt
      have b3 := HB3.out.cell 0
      clear ht3 ht4 ht5 hk5
      clear y0 y1 n0 r0 g2 g2'
      go_wp2_with fail
      refine wp_region_R [8] (fun w' : World => w'.cell? ⟨gn, 0, none⟩ = some (.string note) ∧ w'.cell? ⟨g, k * 5, none⟩ = some (.int .i64 T.labels[k].id)) (by kernel_rfl) ?_
      have hS : (fun w' : World => w'.cell? ⟨gn, 0, none⟩ = some (.string note) ∧ w'.cell? ⟨g, k * 5, none⟩ = some (.int .i64 T.labels[k].id)) (World.drew _) := ⟨HB3.out.drew.cell 0, z0⟩
      refine wpAnyR_takeQ (i := 0) (v := ?_) (some 32) rfl rfl (by kernel_rfl) (by kernel_rfl) (by kernel_rfl) (by kernel_rfl) (fun _ _ _ h => h) (Or.inl ⟨by rfl, ?_⟩) ?_
      rotate_left
      focus (intro wS hSw; (try dsimp only at hSw); go_simp; (try with_reducible rfl); (try (first | (rw [if_pos (by omega)]; (try go_simp); (try with_reducible rfl)) | (rw [if_neg (by omega)]; (try go_simp); (try with_reducible rfl)))))
      try simp only [Act.put, List.setIfInBounds_toArray, List.set_cons_zero, List.set_cons_succ]
      refine wpAnyR_takeQ (i := 1) (v := ?_) (some 33) rfl rfl (by kernel_rfl) (by kernel_rfl) (by kernel_rfl) (by kernel_rfl) (fun _ _ _ h => h) (Or.inl ⟨by rfl, ?_⟩) ?_
      rotate_left
      focus (intro wS hSw; (try dsimp only at hSw); go_simp; (try with_reducible rfl); (try (first | (rw [if_pos (by omega)]; (try go_simp); (try with_reducible rfl)) | (rw [if_neg (by omega)]; (try go_simp); (try with_reducible rfl)))))
      try simp only [Act.put, List.setIfInBounds_toArray, List.set_cons_zero, List.set_cons_succ]
      refine wpAnyR_take (i := 2) (v := ?_) [6, 7, 8] (some 34) rfl rfl (by kernel_rfl) (by kernel_rfl) (by kernel_rfl) (by kernel_rfl) (by kernel_rfl) (by kernel_rfl) (by kernel_rfl) (fun _ _ _ h => h) (Or.inl ⟨by rfl, ?_⟩) hS ?_
      rotate_left
      focus (intro wS hSw; (try dsimp only at hSw); go_simp; (try with_reducible rfl); (try (first | (rw [if_pos (by omega)]; (try go_simp); (try with_reducible rfl)) | (rw [if_neg (by omega)]; (try go_simp); (try with_reducible rfl)))))
      try simp only [Act.put, List.setIfInBounds_toArray, List.set_cons_zero, List.set_cons_succ]
      refine wpAnyR_take (i := 3) (v := ?_) [4, 5, 6, 7, 8] (some 35) rfl rfl (by kernel_rfl) (by kernel_rfl) (by kernel_rfl) (by kernel_rfl) (by kernel_rfl) (by kernel_rfl) (by kernel_rfl) (fun _ _ _ h => h) (Or.inl ⟨by rfl, ?_⟩) hS ?_
      rotate_left
      focus (intro wS hSw; (try dsimp only at hSw); go_simp; (try with_reducible rfl); (try (first | (rw [if_pos (by omega)]; (try go_simp); (try with_reducible rfl)) | (rw [if_neg (by omega)]; (try go_simp); (try with_reducible rfl)))))
      try simp only [Act.put, List.setIfInBounds_toArray, List.set_cons_zero, List.set_cons_succ]
      refine wpAnyR_takeQ (i := 4) (v := ?_) (some 36) rfl rfl (by kernel_rfl) (by kernel_rfl) (by kernel_rfl) (by kernel_rfl) (fun _ _ _ h => h) (Or.inl ⟨by rfl, ?_⟩) ?_
      rotate_left
      focus (intro wS hSw; (try dsimp only at hSw); go_simp; (try with_reducible rfl); (try (first | (rw [if_pos (by omega)]; (try go_simp); (try with_reducible rfl)) | (rw [if_neg (by omega)]; (try go_simp); (try with_reducible rfl)))))
      try simp only [Act.put, List.setIfInBounds_toArray, List.set_cons_zero, List.set_cons_succ]
      refine wpAnyR_n1 (i := 5) rfl (by kernel_rfl) ?_
      intro K' hK
      rw [if_pos (by rfl)]
      simp only [List.getElem_toArray, List.getElem_cons_succ, List.getElem_cons_zero]
      go_wp2_with fail
      refine hK.out _ _ (.inr (fun h => ⟨(HB3.out.drew.far (p := ⟨g, k * 5 + 1, none⟩) hgng (.int .i64 0)).cell 0, HZ0.out⟩)) ?_
      clear hK hS
      have hS : (fun w' : World => w'.cell? ⟨gn, 0, none⟩ = some (.string note) ∧ w'.cell? ⟨g, k * 5, none⟩ = some (.int .i64 T.labels[k].id)) (W.setCell ⟨g, k * 5 + 1, none⟩ (.int .i64 0)).drew := ⟨(HB3.out.drew.far (p := ⟨g, k * 5 + 1, none⟩) hgng (.int .i64 0)).cell 0, HZ0.out⟩
      refine wpAnyR_take (i := 6) (v := ?_) [7, 8] (some 37) rfl rfl (by kernel_rfl) (by kernel_rfl) (by kernel_rfl) (by kernel_rfl) (by kernel_rfl) (by kernel_rfl) (by kernel_rfl) (fun _ _ _ h => h) (Or.inl ⟨by rfl, ?_⟩) hS ?_
      rotate_left
      focus (intro wS hSw; (try dsimp only at hSw); go_simp; (try with_reducible rfl); (try (first | (rw [if_pos (by omega)]; (try go_simp); (try with_reducible rfl)) | (rw [if_neg (by omega)]; (try go_simp); (try with_reducible rfl)))))
      try simp only [Act.put, List.setIfInBounds_toArray, List.set_cons_zero, List.set_cons_succ]
      refine wpAnyR_takeQ (i := 7) (v := ?_) (some 38) rfl rfl (by kernel_rfl) (by kernel_rfl) (by kernel_rfl) (by kernel_rfl) (fun _ _ _ h => h) (Or.inl ⟨by rfl, ?_⟩) ?_
      rotate_left
      focus (intro wS hSw; (try dsimp only at hSw); go_simp; (try with_reducible rfl); (try (first | (rw [if_pos (by omega)]; (try go_simp); (try with_reducible rfl)) | (rw [if_neg (by omega)]; (try go_simp); (try with_reducible rfl)))))
      try simp only [Act.put, List.setIfInBounds_toArray, List.set_cons_zero, List.set_cons_succ]
      refine wpAnyR_n1 (i := 8) rfl (by kernel_rfl) ?_
      intro K' hK
      rw [if_pos (by rfl)]
      simp only [List.getElem_toArray, List.getElem_cons_succ, List.getElem_cons_zero]
      go_wp2_with fail
      refine hK.out _ _ (.inl rfl) ?_
      clear hK
      refine wpAnyR_done (by kernel_rfl) ?_ _
      go_wp2_with fail
      go_ret
      rw [HE.out]
      exact ⟨rfl, HT5.out, HTU.out⟩
end
end Go.Proofs.Ytnlaogneceanoaa
namespace Go.Proofs.Ytnlaogneceanoaa
set_option linter.unusedVariables false
set_option linter.unusedSimpArgs false
set_option linter.unusedSectionVars false
open Go.RowKit
theorem OwnL.len {w : World} {base e sz g n cap : Nat} {rows : List (List Value)} (h : OwnL w base e sz (.slice (some ⟨g, 0, none⟩) n cap) rows) : rows.length = n ∧ n ≤ cap ∧ cap ≤ 9223372036854775807 := by
  rcases h.2.2 with ⟨h0, _⟩ | ⟨g', cap', cur, hv, _, _, hn, hm, _⟩
  · cases h0
  · injection hv with _ h1 h2
    unfold maxLen at hm
    exact ⟨h1.symm, by rw [h1, h2]; exact hn, by rw [h2]; simpa using hm⟩
theorem OwnL.block {w : World} {base e sz g n cap : Nat} {rows : List (List Value)} (h : OwnL w base e sz (.slice (some ⟨g, 0, none⟩) n cap) rows) :
    ∃ cur, base ≤ g ∧ w.heap[g]? = some (.cells cur e (0, 0)) ∧ cur.size = cap * sz ∧ cur.toList.take (n * sz) = rows.flatten := by
  have hlen := h.len.1
  rcases h.2.2 with ⟨h0, _⟩ | ⟨g', cap', cur, hv, hb, hh, hn, hm, hs, ht⟩
  · cases h0
  · injection hv with h0 h1 h2
    injection h0 with h0
    injection h0 with h0 _ _
    subst h0
    rw [hlen] at ht
    exact ⟨cur, hb, hh, by rw [hs, h2], ht⟩
section
variable {P : Program}
end
end Go.Proofs.Ytnlaogneceanoaa
