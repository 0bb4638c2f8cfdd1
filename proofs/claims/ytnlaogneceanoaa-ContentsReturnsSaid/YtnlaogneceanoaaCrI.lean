/- Chapter 8: Free, Find, New. Chapter 8: pieces of 128 bytes, plain. Chapter 8: the reference's cut and track; Texts. Chapter 8: the references of a table: their comparison, the sort by it. Chapter 8: the reference's Refs; SameRefs. Chapter 8: the reference's Sectors. Chapter 8: SameWrites for one list. Chapter 8: the reference's Changes. Chapter 8: the program's Sectors. Chapter 8: the program's Changes. Chapter 8: what the sectors of a table say, plain. -/
import Derived.Laws.MakeOwn
import Derived.Shelf.SlSortCmp.NoneTotal
import Derived.Shelf.SlSortCmp.WholeK
import Derived.IntWalk
import Derived.Test.YtnlaogneceanoaaCrA
import Derived.Test.YtnlaogneceanoaaCrB
import Derived.Test.YtnlaogneceanoaaCrD
import Derived.Test.YtnlaogneceanoaaCrE
import Derived.Test.YtnlaogneceanoaaCrG
import Derived.Test.YtnlaogneceanoaaCrH
namespace Go.Proofs.Ytnlaogneceanoaa
set_option linter.unusedVariables false
set_option linter.unusedSimpArgs false
set_option linter.unusedSectionVars false
open Go.RowKit
attribute [local go_sem ↓] Go.wp_at_zero Go.wp_at_succ
theorem validT_facts (T : Tab) (h : validT T = true) : T.labels.length ≤ 31 ∧ (extsL T.labels).length ≤ 496 ∧ (∀ l ∈ T.labels, l.ext.length ≤ 16 ∧ 0 ≤ l.unit) :=
  ⟨((validT_iff T).1 h).small.1, ((validT_iff T).1 h).exts, ((validT_iff T).1 h).small.2⟩
theorem ttS_i64 (t : Int) : -9223372036854775808 ≤ ttS t ∧ ttS t ≤ 9223372036854775807 := by have := ttS_bd t; omega
set_option maxRecDepth 100000 in
set_option maxHeartbeats 4000000 in
theorem free_tab (A : Option Addr) (c : Nat) (xs : List LabE) (T : Tab) (w : World) (h : TabAt w A c xs T) (hs : SmallT T) (n : Nat) (hn : n = T.labels.length) (kf : List (Int × Int)) (hkf : freeT T = kf) :
    Calls Try.prog 23 #[.agg #[.string T.name, .int .i64 T.tracks, .slice A n c]] w fun e w' => ∃ A c, e = .returned (.slice A kf.length c) ∧ RunsAt w' w'.heap.size A kf ∧ Grew w w' := by
  subst hn; subst hkf
  have hg0 := (Grew.refl w).alloc (.cells #[.string T.name, .int .i64 T.tracks, .slice A T.labels.length c] 34)
  have HB0 := Lib.hid (Blk.new w 34 #[.string T.name, .int .i64 T.tracks, .slice A T.labels.length c] rfl)
  have HV := Lib.hid (valid_tab A c xs T _ (h.hold hg0) hs _ rfl)
  have HTB := Lib.hid h
  have HS := Lib.hid hs
  have HG0 := Lib.hid hg0
  have htr0 := h.tr0
  have htr1 := h.tr1
  clear h hs hg0
  cases hv : validT T with
  | false =>
    have HE := Lib.hid (show freeT T = [] from by unfold freeT; rw [hv]; rfl)
    have HVF := Lib.hid hv
    clear hv
    go_enter Try.func23, Try.ntmps23
    go_wp2_with fail
    refine HV.out.mono ?_
    rintro e w1 ⟨rfl, g1⟩
    rw [HVF.out]
    go_wp2_with fail
    go_ret
    exact ⟨none, 0, by rw [HE.out]; rfl, by rw [HE.out]; exact nil_runs _, HG0.out.trans g1⟩
  | true =>
    obtain ⟨hn31, hx496, hall⟩ := validT_facts T hv
    have HFR := Lib.hid (show freeS (ttS T.tracks) T.tracks (extsL T.labels) = freeT T from by unfold freeT; rw [if_pos hv])
    have HVF := Lib.hid hv
    have HAL := Lib.hid hall
    clear hv hall
    go_enter Try.func23, Try.ntmps23
    go_wp2_with fail
    refine HV.out.mono ?_
    rintro e w1 ⟨rfl, g1⟩
    rw [HVF.out]
    have hb1 := HB0.out.grew g1
    have hg1 := HG0.out.trans g1
    have x2 := hb1.cell 2
    have hl1 := hb1.lt
    clear g1
    go_wp2_with fail
    go_loopg [3, 12] T.labels.length (fun gk ov i wr => ∃ k : Nat, k ≤ T.labels.length ∧ gk = T.labels.length - k ∧ i = .int .i64 k ∧ OwnL wr w.heap.size 58 2 ov ((extsL (T.labels.take k)).map runC) ∧ Blk wr w.heap.size 34 #[.string T.name, .int .i64 T.tracks, .slice A T.labels.length c] ∧ (extsL (T.labels.take k)).length ≤ 16 * k ∧ Grew w wr)
    case atStart => exact ⟨0, by omega, by omega, rfl, OwnL.nil _ _ _ _, hb1, by simp [extsL], hg1⟩
    case round =>
      obtain ⟨k, hk, hgk, rfl, hown, hb, hxl, hg⟩ := hrel
      have HGK := Lib.hid hgk
      have HOWN := Lib.hid hown
      have HB := Lib.hid hb
      have HG := Lib.hid hg
      have hbl0 := hb.lt
      have hgs := hg.size
      clear hgk x2 hb1
      by_cases hlt : k < T.labels.length
      · obtain ⟨b, off, B, d, l, rfl, hbl, hxk, hv, hla, c0, c1, c2, c3, c4⟩ := (HTB.out.hold hg).at_ hlt
        have hle := (HAL.out T.labels[k] (List.getElem_mem hlt)).1
        rw [hv] at hle
        have hes := extsL_snoc T.labels k hlt
        rw [hv] at hes
        have HES := Lib.hid hes
        have hgl : Grew wr (wr.alloc (.cells #[.int .i64 l.id, .int .i64 l.unit, .string l.name, .string l.note, .slice B l.ext.length d] 24)) := (Grew.refl wr).alloc _
        have hr2 := ((hla.hold hgl).runs.2.mono (Nat.le_refl _))
        have hown2 := hown.alloc (.cells #[.int .i64 l.id, .int .i64 l.unit, .string l.name, .string l.note, .slice B l.ext.length d] 24)
        have hge := hown.row_ge
        have n3 := hown.ne_blk hb (by decide)
        have hb2 := hb.alloc (.cells #[.int .i64 l.id, .int .i64 l.unit, .string l.name, .string l.note, .slice B l.ext.length d] 24)
        have hg2 := hg.alloc (.cells #[.int .i64 l.id, .int .i64 l.unit, .string l.name, .string l.note, .slice B l.ext.length d] 24)
        clear hv hxk hla hes hgl hown hb hg
        go_wp2_with (at_builtin; refine wpList_pushAll (by rfl) _ _ 22 rfl w.heap.size 58 2 16 _ Try.underlying22 info_run rfl (by decide) _ _ (l.ext.map runC) (by rfl) hown2 B l.ext.length _ (by rfl) (by rw [List.length_map]) (map_one_len _) hr2 (map_one_one _) (by rw [List.length_map]; omega) (by rw [List.length_map]; omega) (by simp; omega) ?_; intro v1 w3 hown3 hgr3 hat3)
        have HO3 := Lib.hid hown3
        have HB3 := Lib.hid (hb2.own hgr3 n3)
        have HG3 := Lib.hid (hg2.own hgr3 hge (Nat.le_refl _))
        clear hown3 hgr3 hat3 hb2 hg2 hown2 hr2
        go_roundg (T.labels.length - (k + 1))
        case measure => rw [HGK.out]; omega
        case rel => exact ⟨k + 1, by omega, by omega, by go_num, by rw [HES.out, List.map_append]; exact HO3.out, HB3.out, by rw [HES.out, List.length_append]; omega, HG3.out⟩
      · have hkn : k = T.labels.length := by omega
        subst hkn
        rw [List.take_length] at hown hxl
        obtain ⟨Ar, cr, hvr, hlr, hcr, hrr⟩ := own_runsL hown (HTB.out.okruns)
        subst hvr
        have HF := Lib.hid (fun w9 (g9 : Grew wr w9) => free_val (A := Ar) (c := cr) (w := w9) rfl (by omega) (hrr.hold g9) (ttS T.tracks) T.tracks (ttS_i64 _).1 (ttS_i64 _).2 htr0 htr1 _ HFR.out)
        have hS : (fun w' : World => w'.cell? ⟨w.heap.size, 1, none⟩ = some (.int .i64 T.tracks)) wr.drew := hb.drew.cell 1
        clear hown hrr hb hg hlt
        go_wp2_with fail
        refine wp_region_R [] (fun w' : World => w'.cell? ⟨w.heap.size, 1, none⟩ = some (.int .i64 T.tracks)) (by kernel_rfl) ?_
        refine wpAnyR_takeQ (i := 0) (v := ?_) (some 21) rfl rfl (by kernel_rfl) (by kernel_rfl) (by kernel_rfl) (by kernel_rfl) (fun _ _ _ h => h) (Or.inl ⟨by rfl, ?_⟩) ?_
        rotate_left
        focus (intro wS hSw; (try dsimp only at hSw); go_simp; (try with_reducible rfl); (try (first | (rw [if_pos (by omega)]; (try go_simp); (try with_reducible rfl)) | (rw [if_neg (by omega)]; (try go_simp); (try with_reducible rfl)))))
        try simp only [Act.put, zA, zB, zC]
        refine wpAnyR_take (i := 1) (v := ?_) [2, 6, 7] (some 22) rfl rfl (by kernel_rfl) (by kernel_rfl) (by kernel_rfl) (by kernel_rfl) (by kernel_rfl) (by kernel_rfl) (by kernel_rfl) (fun _ _ _ h => h) (Or.inl ⟨by rfl, ?_⟩) hS ?_
        rotate_left
        focus (intro wS hSw; (try dsimp only at hSw); go_simp; (try with_reducible rfl); (try (first | (rw [if_pos (by omega)]; (try go_simp); (try with_reducible rfl)) | (rw [if_neg (by omega)]; (try go_simp); (try with_reducible rfl)))))
        try simp only [Act.put, zA, zB, zC]
        refine wpAnyR_takeQ (i := 3) (v := ?_) (some 24) rfl rfl (by kernel_rfl) (by kernel_rfl) (by kernel_rfl) (by kernel_rfl) (fun _ _ _ h => h) (Or.inl ⟨by rfl, ?_⟩) ?_
        rotate_left
        focus (intro wS hSw; (try dsimp only at hSw); go_simp; (try with_reducible rfl); (try (first | (rw [if_pos (by omega)]; (try go_simp); (try with_reducible rfl)) | (rw [if_neg (by omega)]; (try go_simp); (try with_reducible rfl)))))
        try simp only [Act.put, zA, zB, zC]
        refine wpAnyR_take (i := 4) (v := ?_) [6, 7] (some 25) rfl rfl (by kernel_rfl) (by kernel_rfl) (by kernel_rfl) (by kernel_rfl) (by kernel_rfl) (by kernel_rfl) (by kernel_rfl) (fun _ _ _ h => h) (Or.inl ⟨by rfl, ?_⟩) hS ?_
        rotate_left
        focus (intro wS hSw; (try dsimp only at hSw); go_simp; (try with_reducible rfl); (try (first | (rw [if_pos (by omega)]; (try go_simp); (try with_reducible rfl)) | (rw [if_neg (by omega)]; (try go_simp); (try with_reducible rfl)))))
        try simp only [Act.put, zA, zB, zC]
        refine wpAnyR_takeQ (i := 5) (v := ?_) (some 26) rfl rfl (by kernel_rfl) (by kernel_rfl) (by kernel_rfl) (by kernel_rfl) (fun _ _ _ h => h) (Or.inl ⟨by rfl, ?_⟩) ?_
        rotate_left
        focus (intro wS hSw; (try dsimp only at hSw); go_simp; (try with_reducible rfl); (try (first | (rw [if_pos (by omega)]; (try go_simp); (try with_reducible rfl)) | (rw [if_neg (by omega)]; (try go_simp); (try with_reducible rfl)))))
        try simp only [Act.put, zA, zB, zC]
        refine wpAnyR_n1 (i := 2) rfl (by kernel_rfl) ?_
        intro K' hK
        rw [if_pos (by rfl)]
        simp only [List.getElem_toArray, List.getElem_cons_succ, List.getElem_cons_zero]
        go_wp2_with fail
        refine (table_any _ _).mono ?_
        rintro e w8 ⟨rfl, rfl⟩
        go_wp2_with fail
        refine hK.out _ _ (.inr (fun h => h)) ?_
        clear hK
        refine wpAnyR_n1 (i := 6) rfl (by kernel_rfl) ?_
        intro K' hK
        rw [if_pos (by rfl)]
        simp only [List.getElem_toArray, List.getElem_cons_succ, List.getElem_cons_zero]
        go_wp2_with fail
        refine (HF.out _ (Grew.refl wr).drew).mono ?_
        rintro e w9 ⟨A9, c9, rfl, hr9, g9⟩
        have HR9 := Lib.hid hr9
        clear hr9
        go_wp2_with fail
        refine hK.out _ _ (.inr (fun h => (HB.out.drew.grew g9).cell 1)) ?_
        clear hK
        refine wpAnyR_takeQ (i := 7) (v := ?_) (some 2) rfl rfl (by kernel_rfl) (by kernel_rfl) (by kernel_rfl) (by kernel_rfl) (fun _ _ _ h => h) (Or.inl ⟨by rfl, ?_⟩) ?_
        rotate_left
        focus (intro wS hSw; (try dsimp only at hSw); go_simp; (try with_reducible rfl); (try (first | (rw [if_pos (by omega)]; (try go_simp); (try with_reducible rfl)) | (rw [if_neg (by omega)]; (try go_simp); (try with_reducible rfl)))))
        try simp only [Act.put, zA, zB, zC]
        refine wpAnyR_done (by kernel_rfl) ?_ _
        go_wp2_with fail
        go_ret
        exact ⟨A9, c9, rfl, HR9.out, HG.out.drew.trans g9⟩
def fndT (T : Tab) (id unit : Int) : Lab × Bool := if 0 ≤ idxT T id unit then (T.labels.getD (idxT T id unit).toNat labZ, true) else (labZ, false)
theorem fndT_cases (T : Tab) (id unit : Int) : (∃ (k : Nat) (hk : k < T.labels.length), idxT T id unit = (k : Int) ∧ fndT T id unit = (T.labels[k], true) ∧ hitL id unit T.labels[k] = true) ∨ (idxT T id unit = -1 ∧ fndT T id unit = (labZ, false) ∧ ∀ l ∈ T.labels, hitL id unit l = false) := by
  rcases idxP_cases (hitL id unit) T.labels with ⟨k, hk, h1, h2, _⟩ | ⟨h1, h2⟩
  · have h1' : idxT T id unit = (k : Int) := h1
    refine .inl ⟨k, hk, h1', ?_, h2⟩
    unfold fndT
    rw [h1', if_pos (by omega), Int.toNat_natCast, List.getD_eq_getElem?_getD, List.getElem?_eq_getElem hk]
    rfl
  · have h1' : idxT T id unit = -1 := h1
    refine .inr ⟨h1', ?_, h2⟩
    unfold fndT
    rw [h1', if_neg (by omega)]
set_option maxRecDepth 100000 in
set_option maxHeartbeats 4000000 in
theorem find_tab (A : Option Addr) (c : Nat) (xs : List LabE) (T : Tab) (w : World) (h : TabAt w A c xs T) (hs : SmallT T) (n : Nat) (hn : n = T.labels.length) (id unit : Int) (l : Lab) (ok : Bool) (hf : fndT T id unit = (l, ok)) :
    Calls Try.prog 14 #[.agg #[.string T.name, .int .i64 T.tracks, .slice A n c], .agg #[.int .i64 id, .int .i64 unit]] w fun e w' => ∃ B d, e = .returned (.tuple #[.agg #[.int .i64 l.id, .int .i64 l.unit, .string l.name, .string l.note, .slice B l.ext.length d], .bool ok]) ∧ LabAt w' B d l ∧ Grew w w' := by
  subst hn
  have hg0 := (((Grew.refl w).alloc (.cells #[.string T.name, .int .i64 T.tracks, .slice A T.labels.length c] 34)).alloc (.cells #[.int .i64 id, .int .i64 unit] 37)).alloc (.cells #[.int .i64 0, .int .i64 0, .string ⟨#[]⟩, .string ⟨#[]⟩, .slice none 0 0] 24)
  have hb0 := ((Blk.new w 34 #[.string T.name, .int .i64 T.tracks, .slice A T.labels.length c] rfl).alloc (.cells #[.int .i64 id, .int .i64 unit] 37)).alloc (.cells #[.int .i64 0, .int .i64 0, .string ⟨#[]⟩, .string ⟨#[]⟩, .slice none 0 0] 24)
  have hz0 := Blk.new ((w.alloc (.cells #[.string T.name, .int .i64 T.tracks, .slice A T.labels.length c] 34)).alloc (.cells #[.int .i64 id, .int .i64 unit] 37)) 24 #[.int .i64 0, .int .i64 0, .string ⟨#[]⟩, .string ⟨#[]⟩, .slice none 0 0] (n := w.heap.size + 1 + 1) (by simp)
  have HC := Lib.hid (fun k hk => cindex_any A c xs T id unit _ (h.hold hg0) hs _ rfl k hk)
  have HTB := Lib.hid h
  have HS := Lib.hid hs
  have HG0 := Lib.hid hg0
  have HB0 := Lib.hid hb0
  have HZ0 := Lib.hid hz0
  clear h hs hg0 hb0 hz0
  rcases fndT_cases T id unit with ⟨k, hk, h1, h2, _⟩ | ⟨h1, h2, _⟩
  · rw [h2] at hf
    injection hf with hf1 hf2
    subst hf2
    have HI := Lib.hid (HC.out _ h1)
    have HF1 := Lib.hid hf1
    have hle := HS.out.ext T.labels[k] (List.getElem_mem hk)
    rw [hf1] at hle
    clear HC h1 h2 hf1
    go_enter Try.func14, Try.ntmps14
    go_wp2_with fail
    refine HI.out.mono ?_
    rintro e w1 ⟨rfl, g1⟩
    have hb1 := HB0.out.grew g1
    have hg1 := HG0.out.trans g1
    have hz1 := HZ0.out.grew g1
    have x2 := hb1.cell 2
    have hl1 := hb1.lt
    have hl2 := hz1.lt
    have hkn : (k : Int) < (T.labels.length : Int) := by omega
    obtain ⟨b, off, B, d, l', rfl, hbl, hxk, hv, hla, c0, c1, c2, c3, c4⟩ := (HTB.out.hold hg1).at_ hk
    rw [HF1.out] at hv
    subst hv
    have hgl : Grew w1 (w1.alloc (.cells #[.int .i64 l.id, .int .i64 l.unit, .string l.name, .string l.note, .slice B l.ext.length d] 24)) := (Grew.refl w1).alloc _
    have HCL := Lib.hid (clone_runs B d l.ext.length l.ext _ rfl (by omega) (hla.hold hgl).runs.2)
    have HLA := Lib.hid (hla.hold hgl)
    have HNB := Lib.hid (Blk.new w1 24 #[.int .i64 l.id, .int .i64 l.unit, .string l.name, .string l.note, .slice B l.ext.length d] rfl)
    have HG1 := Lib.hid (hg1.trans hgl)
    have HZ1 := Lib.hid (hz1.grew hgl)
    clear g1 hb1 hg1 hz1 hla hgl hxk
    go_wp2_with fail
    refine HCL.out.mono ?_
    rintro e w2 ⟨v2, rfl, hown2, g2⟩
    obtain ⟨A2, c2', rfl, hl2c, hc2, hr2⟩ := own_runsL hown2 HLA.out.runs.1
    have hnb := HNB.out.grew g2
    have hzb := HZ1.out.grew g2
    have hg2 := HG1.out.trans g2
    have y0 := hnb.cell 0
    have y1 := hnb.cell 1
    have y2 := hnb.cell 2
    have y3 := hnb.cell 3
    have y4 := hnb.cell 4
    have yf := hnb.frozen 4
    have hnl := hnb.lt
    have z0 := hzb.cell 0
    have z1 := hzb.cell 1
    have z2 := hzb.cell 2
    have z3 := hzb.cell 3
    have z4 := hzb.cell 4
    have f0 := hzb.frozen 0
    have f1 := hzb.frozen 1
    have f2 := hzb.frozen 2
    have f3 := hzb.frozen 3
    have f4 := hzb.frozen 4
    have hzl := hzb.lt
    have hz9 := hg2.size
    have hz8 : w.heap.size + 1 + 1 < w1.heap.size := hl2
    have HL2 := Lib.hid (show LabAt w2 A2 c2' l from ⟨HLA.out.id0, HLA.out.id1, HLA.out.unit0, HLA.out.unit1, HLA.out.name, HLA.out.note, hr2, hl2c, hc2⟩)
    have HGG := Lib.hid hg2
    have HFA := Lib.hid (show ∀ b off, A2 = some ⟨b, off, none⟩ → w1.heap.size + 1 ≤ b from fun b off e => by have := (hown2.own_ge (by rw [e]; rfl)).1; simpa using this)
    clear hown2 hr2 hnb hzb g2 hg2 c0 c1 c2 c3 c4 x2
    go_wp2_with fail
    refine bodyPost_ret (by first | (simp [*, results, Try.results14, go_sem]; rfl) | simp [*, results, Try.results14, go_sem]) rfl ?_
    exact ⟨_, _, rfl, HL2.out.turned (S := fun k => k < w1.heap.size + 1) (by (repeat' first | (with_reducible exact Turned.refl _ _) | (with_reducible assumption) | (with_reducible refine Turned.alloc ?_ _) | (with_reducible refine Turned.drew ?_) | (with_reducible refine Turned.drewN ?_ _) | (with_reducible refine Turned.setRow ?_ (by first | (simp; done) | (simp; omega) | omega) _) | (with_reducible refine Turned.setCell ?_ (by first | (simp; done) | (simp; omega) | omega) _) | ((with_reducible apply Turned.andGrew); rotate_left; (with_reducible assumption)) | ((with_reducible apply Turned.trans); rotate_left; (with_reducible assumption)) | fail)) (fun _ b off e => by have := HFA.out b off e; omega), by have hg := HGG.out; (repeat' first | (with_reducible exact Grew.refl _) | (with_reducible assumption) | (with_reducible refine Grew.alloc ?_ _) | (with_reducible refine Grew.drew ?_) | (with_reducible refine Grew.drewN ?_ _) | (with_reducible refine Grew.setRow ?_ (by first | (simp; done) | (simp; omega) | omega) _) | (with_reducible refine Grew.setCell ?_ (by first | (simp; done) | (simp; omega) | omega) _) | ((with_reducible apply Grew.trans); rotate_left; (with_reducible assumption)) | ((with_reducible apply Grew.turn); rotate_left; (with_reducible assumption); (focus (intro i hi; first | omega | (simp at hi; omega)))) | fail)⟩
  · rw [h2] at hf
    injection hf with hf1 hf2
    subst hf2; subst hf1
    have HI := Lib.hid (HC.out _ h1)
    clear HC h1 h2
    go_enter Try.func14, Try.ntmps14
    go_wp2_with fail
    refine HI.out.mono ?_
    rintro e w1 ⟨rfl, g1⟩
    have hzb := HZ0.out.grew g1
    have z0 := hzb.cell 0
    have z1 := hzb.cell 1
    have z2 := hzb.cell 2
    have z3 := hzb.cell 3
    have z4 := hzb.cell 4
    have f0 := hzb.frozen 0
    have f1 := hzb.frozen 1
    have f2 := hzb.frozen 2
    have f3 := hzb.frozen 3
    have f4 := hzb.frozen 4
    have hzl := hzb.lt
    have hg1 := HG0.out.trans g1
    clear hzb g1
    go_wp2_with fail
    refine bodyPost_ret (by first | (simp [*, results, Try.results14, go_sem]; rfl) | simp [*, results, Try.results14, go_sem]) rfl ?_
    exact ⟨none, 0, rfl, LabAt.zero _, by (repeat' first | (with_reducible exact Grew.refl _) | (with_reducible assumption) | (with_reducible refine Grew.alloc ?_ _) | (with_reducible refine Grew.drew ?_) | (with_reducible refine Grew.drewN ?_ _) | (with_reducible refine Grew.setRow ?_ (by first | (simp; done) | (simp; omega) | omega) _) | (with_reducible refine Grew.setCell ?_ (by first | (simp; done) | (simp; omega) | omega) _) | ((with_reducible apply Grew.trans); rotate_left; (with_reducible assumption)) | ((with_reducible apply Grew.turn); rotate_left; (with_reducible assumption); (focus (intro i hi; first | omega | (simp at hi; omega)))) | fail)⟩
def newT (s : ByteArray) (t : Int) : Tab × Int := if okT t = true ∧ nameOk s = true then (⟨s, t, List.replicate (slotsS t).toNat labZ⟩, 0) else (tabZ, 1)
theorem slots_nat (t : Int) : ((slotsS t).toNat : Int) = slotsS t ∧ (slotsS t).toNat ≤ 31 := by
  have := ttS_bd t
  unfold slotsS
  omega
theorem made_labs (w : World) (n : Nat) (hn : n ≤ 1000) : (Instr.makeSlice 32 (.int .i64 (n : Int)) (.int .i64 (n : Int))).run Try.prog w = .ok (.slice (some ⟨w.heap.size, 0, none⟩) n n) (w.alloc (.cells (madeCells #[.int .i64 0, .int .i64 0, .string ⟨#[]⟩, .string ⟨#[]⟩, .slice none 0 0] (n * 5)) 24)) := by
  obtain ⟨i, hi, hz0, hz1, hz2⟩ : ∃ i, Try.prog.info? 24 = some i ∧ i.zero = some (.agg #[.int .i64 0, .int .i64 0, .string ⟨#[]⟩, .string ⟨#[]⟩, .slice none 0 0]) ∧ i.size = 5 ∧ i.bytes = 72 := by
    have h := info_lab
    cases hq : Try.prog.info? 24 with
    | none => rw [hq] at h; cases h
    | some i => rw [hq] at h; simp at h; exact ⟨i, rfl, h.1, h.2.1, h.2.2⟩
  have h := run_make (P := Try.prog) w 32 24 i _ Try.underlying32 hi hz0 .i64 .i64 (n : Int) (n : Int) (by omega) (by omega) (by rw [hz2]; omega) (by omega)
  rw [hz1] at h
  simp only [Int.toNat_natCast] at h
  exact h
theorem made_tab (w : World) (n : Nat) (s : ByteArray) (t : Int) (hs : s.size ≤ 9223372036854775807) (t0 : -9223372036854775808 ≤ t) (t1 : t ≤ 9223372036854775807) (hn : n ≤ 1000) {g : Nat} (hgw : g = w.heap.size) {w' : World} (hw : Grew (w.alloc (.cells (madeCells #[.int .i64 0, .int .i64 0, .string ⟨#[]⟩, .string ⟨#[]⟩, .slice none 0 0] (n * 5)) 24)) w') :
    TabAt w' (some ⟨g, 0, none⟩) n (List.replicate n ⟨none, 0, labZ⟩) ⟨s, t, List.replicate n labZ⟩ := by
  subst hgw
  refine TabAt.hold ?_ hw
  refine ⟨fun x hx => by rw [List.eq_of_mem_replicate hx]; exact LabAt.zero _, fun h0 => ⟨w.heap.size, 0, rfl, by simp, fun j cs hj i v hi => ?_⟩, by simp, by omega, by simp, t0, t1, hs⟩
  rw [List.map_replicate, List.getElem?_replicate] at hj
  split at hj
  · rename_i hjn
    injection hj with hj
    subst hj
    have hi5 : i < 5 := (List.getElem?_eq_some_iff.1 hi).1
    rw [(Blk.new w 24 _ rfl).cell]
    unfold madeCells
    rw [Nat.zero_add, Array.getElem?_map, Array.getElem?_range, if_pos (by omega)]
    simp only [Option.map_some]
    have hm : (j * 5 + i) % 5 = i := by omega
    have h5 : (#[Value.int .i64 0, .int .i64 0, .string ⟨#[]⟩, .string ⟨#[]⟩, .slice none 0 0] : Array Value).size = 5 := rfl
    rw [h5, hm]
    match i, hi5 with
    | 0, _ => exact hi
    | 1, _ => exact hi
    | 2, _ => exact hi
    | 3, _ => exact hi
    | 4, _ => exact hi
  · cases hj
set_option maxRecDepth 100000 in
set_option maxHeartbeats 4000000 in
theorem new_tab (s : ByteArray) (t : Int) (w : World) (hs : s.size ≤ 9223372036854775807) (t0 : -9223372036854775808 ≤ t) (t1 : t ≤ 9223372036854775807) (T : Tab) (er : Int) (hT : newT s t = (T, er)) :
    Calls Try.prog 21 #[.string s, .int .i64 t] w fun e w' => ∃ A c xs, e = .returned (.tuple #[.agg #[.string T.name, .int .i64 T.tracks, .slice A T.labels.length c], .int .i64 er]) ∧ TabAt w' A c xs T ∧ Grew w w' := by
  have hz0 := Blk.new w 34 #[.string ⟨#[]⟩, .int .i64 0, .slice none 0 0] rfl
  have hG := (Grew.refl w).alloc (.cells #[.string ⟨#[]⟩, .int .i64 0, .slice none 0 0] 34)
  have z0 := hz0.cell 0
  have z1 := hz0.cell 1
  have z2 := hz0.cell 2
  have f0 := hz0.frozen 0
  have f1 := hz0.frozen 1
  have f2 := hz0.frozen 2
  by_cases ho : okT t = true
  rotate_left
  · unfold newT at hT
    rw [if_neg (fun h => ho h.1)] at hT
    injection hT with h1 h2
    subst h1; subst h2
    have HT0 := Lib.hid (show ttS t = 0 from by unfold ttS; rw [if_neg ho])
    clear ho
    go_enter Try.func21, Try.ntmps21
    go_wp2_with fail
    refine (table_any _ _).mono ?_
    rintro e w1 ⟨rfl, rfl⟩
    rw [HT0.out]
    go_wp2_with fail
    refine bodyPost_ret (by first | (simp [*, results, Try.results21, go_sem]; rfl) | simp [*, results, Try.results21, go_sem]) rfl ?_
    exact ⟨none, 0, [], rfl, TabAt.zero _, by (repeat' first | (with_reducible exact Grew.refl _) | (with_reducible assumption) | (with_reducible refine Grew.alloc ?_ _) | (with_reducible refine Grew.drew ?_) | (with_reducible refine Grew.drewN ?_ _) | (with_reducible refine Grew.setRow ?_ (by first | (simp; done) | (simp; omega) | omega) _) | (with_reducible refine Grew.setCell ?_ (by first | (simp; done) | (simp; omega) | omega) _) | ((with_reducible apply Grew.trans); rotate_left; (with_reducible assumption)) | ((with_reducible apply Grew.turn); rotate_left; (with_reducible assumption); (focus (intro i hi; first | omega | (simp at hi; omega)))) | fail)⟩
  obtain ⟨tt, htt⟩ : ∃ tt, ttS t = tt := ⟨_, rfl⟩
  have HT0 := Lib.hid htt
  have hz : (tt == 0) = false := by
    rw [beq_eq_false_iff_ne, ← htt]
    unfold ttS
    have := okT_true ho
    rw [if_pos ho]
    omega
  clear htt
  cases hn : nameOk s with
  | false =>
    unfold newT at hT
    rw [if_neg (fun h => by rw [hn] at h; cases h.2)] at hT
    injection hT with h1 h2
    subst h1; subst h2
    have HN := Lib.hid hn
    clear ho hn
    go_enter Try.func21, Try.ntmps21
    go_wp2_with fail
    refine (table_any _ _).mono ?_
    rintro e w1 ⟨rfl, rfl⟩
    rw [HT0.out]
    go_wp2_with fail
    refine (validName_any _ _ hs).mono ?_
    rintro e w1 ⟨rfl, rfl⟩
    rw [HN.out]
    go_wp2_with fail
    refine bodyPost_ret (by first | (simp [*, results, Try.results21, go_sem]; rfl) | simp [*, results, Try.results21, go_sem]) rfl ?_
    exact ⟨none, 0, [], rfl, TabAt.zero _, by (repeat' first | (with_reducible exact Grew.refl _) | (with_reducible assumption) | (with_reducible refine Grew.alloc ?_ _) | (with_reducible refine Grew.drew ?_) | (with_reducible refine Grew.drewN ?_ _) | (with_reducible refine Grew.setRow ?_ (by first | (simp; done) | (simp; omega) | omega) _) | (with_reducible refine Grew.setCell ?_ (by first | (simp; done) | (simp; omega) | omega) _) | ((with_reducible apply Grew.trans); rotate_left; (with_reducible assumption)) | ((with_reducible apply Grew.turn); rotate_left; (with_reducible assumption); (focus (intro i hi; first | omega | (simp at hi; omega)))) | fail)⟩
  | true =>
    unfold newT at hT
    rw [if_pos ⟨ho, hn⟩] at hT
    injection hT with h1 h2
    subst h1; subst h2
    obtain ⟨h1, h2⟩ := slots_nat t
    have HN := Lib.hid hn
    generalize (slotsS t).toNat = m at *
    have HSL := Lib.hid h1.symm
    have hmk := fun w => made_labs w m (by omega)
    have hml : (List.replicate m labZ).length = m := List.length_replicate
    have HMT := Lib.hid (fun w0 g hg => made_tab w0 m s t hs t0 t1 (by omega) (g := g) hg (Grew.refl _))
    have HML := Lib.hid hml
    clear ho hn h1 hml
    go_enter Try.func21, Try.ntmps21
    go_wp2_with fail
    refine (table_any _ _).mono ?_
    rintro e w1 ⟨rfl, rfl⟩
    rw [HT0.out]
    go_wp2_with fail
    refine (validName_any _ _ hs).mono ?_
    rintro e w1 ⟨rfl, rfl⟩
    rw [HN.out]
    go_wp2_with fail
    refine (slots_any _ _).mono ?_
    rintro e w1 ⟨rfl, rfl⟩
    rw [HSL.out]
    go_wp2_with fail
    refine bodyPost_ret (by first | (simp [*, results, Try.results21, go_sem]; rfl) | simp [*, results, Try.results21, go_sem]) rfl ?_
    exact ⟨_, _, _, by rw [HML.out], HMT.out _ _ (by simp), by (repeat' first | (with_reducible exact Grew.refl _) | (with_reducible assumption) | (with_reducible refine Grew.alloc ?_ _) | (with_reducible refine Grew.drew ?_) | (with_reducible refine Grew.drewN ?_ _) | (with_reducible refine Grew.setRow ?_ (by first | (simp; done) | (simp; omega) | omega) _) | (with_reducible refine Grew.setCell ?_ (by first | (simp; done) | (simp; omega) | omega) _) | ((with_reducible apply Grew.trans); rotate_left; (with_reducible assumption)) | ((with_reducible apply Grew.turn); rotate_left; (with_reducible assumption); (focus (intro i hi; first | omega | (simp at hi; omega)))) | fail)⟩
end Go.Proofs.Ytnlaogneceanoaa
namespace Go.Proofs.Ytnlaogneceanoaa
set_option linter.unusedVariables false
set_option linter.unusedSimpArgs false
set_option linter.unusedSectionVars false
open Go.RowKit
/-- The pieces of 128 bytes. -/
def cutS (s : ByteArray) : List ByteArray := (List.range (s.size / 128)).map fun i => s.extract (128 * i) (128 * i + 128)
theorem cutS_len (s : ByteArray) : (cutS s).length = s.size / 128 := by unfold cutS; simp
theorem cutS_get (s : ByteArray) (i : Nat) (h : i < (cutS s).length) : (cutS s)[i] = s.extract (128 * i) (128 * i + 128) := by simp [cutS]
theorem cutS_app (a b : ByteArray) (ha : a.size % 128 = 0) : cutS (a ++ b) = cutS a ++ cutS b := by
  have hs : (a ++ b).size / 128 = a.size / 128 + b.size / 128 := by rw [ByteArray.size_append]; omega
  refine List.ext_getElem (by rw [List.length_append, cutS_len, cutS_len, cutS_len, hs]) (fun i h1 h2 => ?_)
  rw [cutS_len, hs] at h1
  by_cases hi : i < a.size / 128
  · rw [List.getElem_append_left (by rw [cutS_len]; exact hi)]
    rw [cutS_get, cutS_get, ByteArray.extract_append]
    have h0 : b.extract (128 * i - a.size) (128 * i + 128 - a.size) = ⟨#[]⟩ := by
      have h9 : 128 * i + 128 - a.size = 0 := by omega
      have h8 : 128 * i - a.size = 0 := by omega
      rw [h9, h8]
      apply ByteArray.ext
      simp
    rw [h0]
    exact ByteArray.append_empty
  · rw [List.getElem_append_right (by rw [cutS_len]; omega)]
    rw [cutS_get, cutS_get, ByteArray.extract_append]
    have h0 : a.extract (128 * i) (128 * i + 128) = ⟨#[]⟩ := by
      apply ByteArray.ext
      simp
      omega
    rw [h0, cutS_len]
    have e1 : 128 * i - a.size = 128 * (i - a.size / 128) := by omega
    have e2 : 128 * i + 128 - a.size = 128 * (i - a.size / 128) + 128 := by omega
    rw [e1, e2]
    exact ByteArray.empty_append
/-- What follows the first k pieces. -/
def restS (s : ByteArray) (k : Nat) : ByteArray := s.extract (128 * k) s.size
theorem restS_zero (s : ByteArray) : restS s 0 = s := by unfold restS; simp
theorem restS_size (s : ByteArray) (k : Nat) (h : 128 * k ≤ s.size) : (restS s k).size = s.size - 128 * k := by unfold restS; simp
theorem restS_next (s : ByteArray) (k : Nat) (h : 128 * k + 128 ≤ s.size) : (restS s k).extract 128 (restS s k).size = restS s (k + 1) := by
  rw [restS_size s k (by omega)]
  unfold restS
  rw [ByteArray.extract_extract]
  congr 1 <;> omega
theorem restS_head (s : ByteArray) (k : Nat) (h : 128 * k + 128 ≤ s.size) : (restS s k).extract 0 128 = s.extract (128 * k) (128 * k + 128) := by
  unfold restS
  rw [ByteArray.extract_extract]
  congr 1
  omega
theorem cutS_take (s : ByteArray) (k : Nat) (h : 128 * k + 128 ≤ s.size) : (cutS s).take (k + 1) = (cutS s).take k ++ [s.extract (128 * k) (128 * k + 128)] := by
  have hk : k < (cutS s).length := by rw [cutS_len]; omega
  rw [List.take_succ_eq_append_getElem hk]
  rw [cutS_get]
/-- The sectors of a table. -/
def bodyS (T : Tab) (k : Nat) : ByteArray := ((T.labels.take k).map fun l => encS l T.tracks).foldl (· ++ ·) (headS T.name T.tracks)
def secT (T : Tab) : List ByteArray := if validT T = true then cutS (bodyS T T.labels.length) else []
theorem bodyS_zero (T : Tab) : bodyS T 0 = headS T.name T.tracks := rfl
theorem bodyS_next (T : Tab) (k : Nat) (h : k < T.labels.length) : bodyS T (k + 1) = bodyS T k ++ encS T.labels[k] T.tracks := by
  unfold bodyS
  rw [List.take_succ_eq_append_getElem h, List.map_append, List.foldl_append]
  rfl
end Go.Proofs.Ytnlaogneceanoaa
namespace Go.Proofs.Ytnlaogneceanoaa
set_option linter.unusedVariables false
set_option linter.unusedSimpArgs false
set_option linter.unusedSectionVars false
open Go.RowKit
attribute [local go_sem ↓] Go.wp_at_zero Go.wp_at_succ
def strC (s : ByteArray) : List Value := [.string s]
theorem info_str : (Try.prog.info? 9).map (fun i => (i.zero, i.size, i.bytes)) = some (some (.string ⟨#[]⟩), 1, 16) := by kernel_rfl
end Go.Proofs.Ytnlaogneceanoaa
namespace Go.Proofs.Ytnlaogneceanoaa
set_option linter.unusedVariables false
set_option linter.unusedSimpArgs false
set_option linter.unusedSectionVars false
open Go.RowKit Go.Shelf Go.Lib
attribute [local go_sem ↓] Go.wp_at_zero Go.wp_at_succ
def ltP (a b : Int × Int) : Prop := a.1 < b.1 ∨ a.1 = b.1 ∧ a.2 < b.2
instance (a b : Int × Int) : Decidable (ltP a b) := by unfold ltP; exact inferInstance
end Go.Proofs.Ytnlaogneceanoaa
namespace Go.Proofs.Ytnlaogneceanoaa
set_option linter.unusedVariables false
set_option linter.unusedSimpArgs false
set_option linter.unusedSectionVars false
open Go.RowKit
attribute [local go_sem ↓] Go.wp_at_zero Go.wp_at_succ
theorem OwnL.lower2 {w : World} {b b' e sz : Nat} {v : Value} {rows : List (List Value)} (h : OwnL w b e sz v rows) (hb : b' ≤ b) : OwnL w b' e sz v rows := by
  refine ⟨h.1, h.2.1, ?_⟩
  rcases h.2.2 with h0 | ⟨g, cap, cur, h1, h2, h3⟩
  · exact .inl h0
  · exact .inr ⟨g, cap, cur, h1, Nat.le_trans hb h2, h3⟩
section
variable (A : Option Addr) (c : Nat) (xs : List LabE) (T : Tab) (w : World)
end
end Go.Proofs.Ytnlaogneceanoaa
namespace Go.Proofs.Ytnlaogneceanoaa
set_option linter.unusedVariables false
set_option linter.unusedSimpArgs false
set_option linter.unusedSectionVars false
open Go.RowKit
attribute [local go_sem ↓] Go.wp_at_zero Go.wp_at_succ
theorem lab_1024 (t : Int) (ht : okT t = true) (l : Lab) (h : emL l = true ∨ validL l t = true) : (encS l t).size = 1024 := by
  rcases h with h | h
  · unfold encS
    rw [if_pos ⟨ht, h⟩]
    exact padS_size _ _ (by decide)
  · exact encS_size l t h
theorem head_1024 (T : Tab) (h : validT T = true) : (headS T.name T.tracks).size = 1024 := by
  have hg := (validT_iff T).1 h
  have hp : NameP T.name := of_decide_eq_true hg.nm
  unfold headS
  rw [if_pos ⟨hg.nm, hg.tr⟩]
  refine padS_size _ _ ?_
  have := hp.2.1
  have z1 := eB_size T.name.size
  have z2 := eB_size T.tracks.toNat
  rw [ByteArray.size_append, ByteArray.size_append]
  omega
theorem body_size (T : Tab) (h : validT T = true) : ∀ k, k ≤ T.labels.length → (bodyS T k).size = 1024 * (k + 1) := by
  intro k
  induction k with
  | zero => intro _; rw [bodyS_zero, head_1024 T h]
  | succ k ih =>
    intro hk
    have hg := (validT_iff T).1 h
    rw [bodyS_next T k (by omega), ByteArray.size_append, ih (by omega), lab_1024 T.tracks hg.tr _ (hg.ok _ (List.getElem_mem _))]
    omega
theorem cut_next (T : Tab) (h : validT T = true) (k : Nat) (hk : k < T.labels.length) : cutS (bodyS T (k + 1)) = cutS (bodyS T k) ++ cutS (encS T.labels[k] T.tracks) := by
  rw [bodyS_next T k hk]
  exact cutS_app _ _ (by rw [body_size T h k (by omega)]; omega)
section
variable (A : Option Addr) (c : Nat) (xs : List LabE) (T : Tab) (w : World)
end
end Go.Proofs.Ytnlaogneceanoaa
namespace Go.Proofs.Ytnlaogneceanoaa
set_option linter.unusedVariables false
set_option linter.unusedSimpArgs false
set_option linter.unusedSectionVars false
open Go.RowKit
attribute [local go_sem ↓] Go.wp_at_zero Go.wp_at_succ
def wrC (p : Int × ByteArray) : List Value := [.int .i64 p.1, .string p.2]
end Go.Proofs.Ytnlaogneceanoaa
namespace Go.Proofs.Ytnlaogneceanoaa
set_option linter.unusedVariables false
set_option linter.unusedSimpArgs false
set_option linter.unusedSectionVars false
open Go.RowKit
attribute [local go_sem ↓] Go.wp_at_zero Go.wp_at_succ
theorem sec_valid (T : Tab) (h : (secT T).length ≠ 0) : validT T = true := by
  cases hv : validT T with
  | true => rfl
  | false => exfalso; apply h; unfold secT; rw [if_neg (by rw [hv]; simp)]; rfl
theorem sec_len (T : Tab) (h : (secT T).length ≠ 0) : (secT T).length = 8 * (T.labels.length + 1) := by
  have hv := sec_valid T h
  unfold secT
  rw [if_pos hv, cutS_len, body_size T hv _ (Nat.le_refl _)]
  omega
theorem sec_short (T : Tab) (hs : T.labels.length ≤ 1000) : (secT T).length ≤ 10000 := by
  by_cases h : (secT T).length = 0
  · omega
  · rw [sec_len T h]; omega
theorem sec_same (T U : Tab) (h1 : (secT T).length ≠ 0) (h2 : (secT U).length ≠ 0) (ht : T.tracks = U.tracks) : (secT T).length = (secT U).length := by
  have g1 := ((validT_iff T).1 (sec_valid T h1)).len
  have g2 := ((validT_iff U).1 (sec_valid U h2)).len
  rw [sec_len T h1, sec_len U h2]
  rw [ht] at g1
  omega
def diffP (X Y : List ByteArray) (k : Nat) : List (Int × ByteArray) := ((List.range k).filter fun i => decide (X.getD i ⟨#[]⟩ ≠ Y.getD i ⟨#[]⟩)).map fun (i : Nat) => ((i : Int), Y.getD i ⟨#[]⟩)
def diffT (T U : Tab) : List (Int × ByteArray) := if (secT T).length = (secT U).length ∧ T.tracks = U.tracks then diffP (secT T) (secT U) (secT T).length else []
theorem diffP_eq (X Y : List ByteArray) (k : Nat) (h1 : k < X.length) (h2 : k < Y.length) (h : X[k] = Y[k]) : diffP X Y (k + 1) = diffP X Y k := by
  unfold diffP
  rw [List.range_succ, List.filter_append, List.map_append]
  simp [List.getD_eq_getElem?_getD, List.getElem?_eq_getElem h1, List.getElem?_eq_getElem h2, h]
theorem diffP_ne (X Y : List ByteArray) (k : Nat) (h1 : k < X.length) (h2 : k < Y.length) (h : ¬ X[k] = Y[k]) : diffP X Y (k + 1) = diffP X Y k ++ [((k : Int), Y[k])] := by
  unfold diffP
  rw [List.range_succ, List.filter_append, List.map_append]
  simp [List.getD_eq_getElem?_getD, List.getElem?_eq_getElem h1, List.getElem?_eq_getElem h2, h]
theorem diffP_len (X Y : List ByteArray) (k : Nat) : (diffP X Y k).length ≤ k := by
  unfold diffP
  rw [List.length_map]
  have h9 := List.length_filter_le (fun i => decide (X.getD i ⟨#[]⟩ ≠ Y.getD i ⟨#[]⟩)) (List.range k)
  rw [List.length_range] at h9
  exact h9
theorem info_write : (Try.prog.info? 67).map (fun i => (i.zero, i.size, i.bytes)) = some (some (.agg #[.int .i64 0, .string ⟨#[]⟩]), 2, 24) := by kernel_rfl
end Go.Proofs.Ytnlaogneceanoaa
namespace Go.Proofs.Ytnlaogneceanoaa
set_option linter.unusedVariables false
set_option linter.unusedSimpArgs false
set_option linter.unusedSectionVars false
open Go.RowKit
attribute [local go_sem ↓] Go.wp_at_zero Go.wp_at_succ
section
variable (A : Option Addr) (c : Nat) (xs : List LabE) (T : Tab) (w : World)
set_option maxRecDepth 100000 in
set_option maxHeartbeats 8000000 in
theorem sectors_tab (h : TabAt w A c xs T) (hs : SmallT T) :
    Calls Try.prog 27 #[.agg #[.string T.name, .int .i64 T.tracks, .slice A T.labels.length c]] w fun e w' => ∃ v, e = .returned v ∧ OwnL w' w.heap.size 9 1 v ((secT T).map strC) ∧ Grew w w' := by
  have hg0 := (Grew.refl w).alloc (.cells #[.string T.name, .int .i64 T.tracks, .slice A T.labels.length c] 34)
  have HB0 := Lib.hid (Blk.new w 34 #[.string T.name, .int .i64 T.tracks, .slice A T.labels.length c] rfl)
  have HV := Lib.hid (valid_tab A c xs T _ (h.hold hg0) hs _ rfl)
  have HTB := Lib.hid h
  have HS := Lib.hid hs
  have HG0 := Lib.hid hg0
  have hnm := h.name
  have hlen := hs.len
  have HT01 := Lib.hid (show -9223372036854775808 ≤ T.tracks ∧ T.tracks ≤ 9223372036854775807 from ⟨h.tr0, h.tr1⟩)
  clear h hs hg0
  cases hv : validT T with
  | false =>
    have HE := Lib.hid (show secT T = [] from by unfold secT; rw [if_neg (by rw [hv]; simp)])
    have HVF := Lib.hid hv
    clear hv
    go_enter Try.func27, Try.ntmps27
    go_wp2_with fail
    refine HV.out.mono ?_
    rintro e w1 ⟨rfl, g1⟩
    rw [HVF.out]
    go_wp2_with fail
    go_ret
    exact ⟨_, rfl, by rw [HE.out]; exact OwnL.nil _ _ _ _, HG0.out.trans g1⟩
  | true =>
    have HE := Lib.hid (show secT T = cutS (bodyS T T.labels.length) from by unfold secT; rw [if_pos hv])
    have HVF := Lib.hid hv
    have HBN := Lib.hid (fun k hk => bodyS_next T k hk)
    have HBS := Lib.hid (fun k hk => body_size T hv k hk)
    have HL1 := Lib.hid (fun k (hk : k < T.labels.length) => lab_1024 T.tracks ((validT_iff T).1 hv).tr T.labels[k] (((validT_iff T).1 hv).ok _ (List.getElem_mem hk)))
    have HB00 := Lib.hid (bodyS_zero T)
    clear hv
    go_enter Try.func27, Try.ntmps27
    go_wp2_with fail
    refine HV.out.mono ?_
    rintro e w1 ⟨rfl, g1⟩
    rw [HVF.out]
    have HB1 := Lib.hid (HB0.out.grew g1)
    have HG1 := Lib.hid (HG0.out.trans g1)
    have x0 := HB1.out.cell 0
    have x1 := HB1.out.cell 1
    have hbl := HB1.out.lt
    clear g1
    go_wp2_with fail
    refine (encHead_any T.name T.tracks _ hnm).mono ?_
    rintro e w2 ⟨rfl, g2⟩
    have HB2 := Lib.hid (HB1.out.grew g2)
    have HG2 := Lib.hid (HG1.out.trans g2)
    clear x0 x1 hbl g2
    have x2 := HB2.out.cell 2
    have hbl := HB2.out.lt
    go_wp2_with fail
    go_loopg [3, 18] T.labels.length (fun gk sv i wr => ∃ k : Nat, k ≤ T.labels.length ∧ gk = T.labels.length - k ∧ i = .int .i64 k ∧ sv = .string (bodyS T k) ∧ Blk wr w.heap.size 34 #[.string T.name, .int .i64 T.tracks, .slice A T.labels.length c] ∧ Grew w wr)
    case atStart => exact ⟨0, by omega, by omega, rfl, by rw [HB00.out], HB2.out, HG2.out⟩
    case round =>
      obtain ⟨k, hk, hgk, rfl, rfl, hb, hg⟩ := hrel
      have HGK := Lib.hid hgk
      have HB := Lib.hid hb
      have HG := Lib.hid hg
      have hbz := HBS.out k hk
      clear hgk x2 hbl
      by_cases hlt : k < T.labels.length
      · obtain ⟨b, off, B, d, l, rfl, hbl5, hxk, hv, hla, c0, c1, c2, c3, c4⟩ := (HTB.out.hold hg).at_ hlt
        have hle := HS.out.ext T.labels[k] (List.getElem_mem hlt)
        rw [hv] at hle
        have hn := HBN.out k hlt
        rw [hv] at hn
        have HN := Lib.hid hn
        have hz := HL1.out k hlt
        rw [hv] at hz
        have hz2 : (encS l T.tracks).size ≤ 1024 := by omega
        have hb2 : (bodyS T k).size ≤ 2000000 := by omega
        have gal : Grew wr (wr.alloc (.cells #[.int .i64 l.id, .int .i64 l.unit, .string l.name, .string l.note, .slice B l.ext.length d] 24)) := (Grew.refl wr).alloc _
        have HLA := Lib.hid (hla.hold gal)
        have HNL := Lib.hid (Blk.new wr 24 #[.int .i64 l.id, .int .i64 l.unit, .string l.name, .string l.note, .slice B l.ext.length d] rfl)
        have HBA := Lib.hid (hb.grew gal)
        have HGA := Lib.hid (hg.trans gal)
        have x1 := hb.cell 1
        have hbl0 := hb.lt
        clear hn hz hbz hv hxk hla hb hg gal
        go_wp2_with fail
        refine (encode_lab B d l T.tracks _ HLA.out (by omega) HT01.out.1 HT01.out.2).mono ?_
        rintro e w4 ⟨rfl, g4⟩
        have HB4 := Lib.hid (HBA.out.grew g4)
        have HG4 := Lib.hid (HGA.out.trans g4)
        clear c0 c1 c2 c3 c4 x1 g4
        go_wp2_with fail
        go_roundg (T.labels.length - (k + 1))
        case measure => rw [HGK.out]; omega
        case rel => exact ⟨k + 1, by omega, by omega, by go_num, by rw [HN.out], HB4.out, HG4.out⟩
      · have hkn : k = T.labels.length := by omega
        subst hkn
        obtain ⟨s, hs⟩ : ∃ s, bodyS T T.labels.length = s := ⟨_, rfl⟩
        rw [hs] at hbz ⊢
        have HSE := Lib.hid (HE.out.trans (by rw [hs]))
        have hcl := cutS_len s
        have hsz : s.size = 1024 * (T.labels.length + 1) := hbz
        have HSZ := Lib.hid hsz
        have hR0 := restS_zero s
        have HR0 := Lib.hid hR0
        clear hs hbz hb hg hR0 hsz
        go_wp2_with fail
        go_loopg [3, 6] (s.size / 128) (fun gk av ov wr' => ∃ k : Nat, k ≤ s.size / 128 ∧ gk = s.size / 128 - k ∧ av = .string (restS s k) ∧ OwnL wr' w.heap.size 9 1 ov (((cutS s).take k).map strC) ∧ Grew w wr')
        case atStart => exact ⟨0, by omega, by omega, by rw [HR0.out], OwnL.nil _ _ _ _, HG.out⟩
        case round =>
          obtain ⟨k, hk, hgk, rfl, hown, hg⟩ := hrel
          have HGK := Lib.hid hgk
          have hgs := hg.size
          clear hgk
          have hrs := restS_size s k (by omega)
          have hcz := HSZ.out
          by_cases hlt : k < s.size / 128
          · have hne : (restS s k).toList.isEmpty = false := by
              cases hq : (restS s k).toList with
              | nil =>
                have h9 : restS s k = ⟨#[]⟩ := bytes_eq (by rw [ByteArray.toList_eq] at hq; simpa using hq)
                have h8 := congrArg ByteArray.size h9
                rw [hrs] at h8
                have h6 : s.size - 128 * k = 0 := h8
                omega
              | cons a l => rfl
            have hr1 : 128 ≤ (restS s k).size := by omega
            have HT := Lib.hid (cutS_take s k (by omega))
            have HH := Lib.hid (restS_head s k (by omega))
            have HN := Lib.hid (restS_next s k (by omega))
            have htl : ((cutS s).take k).length ≤ 100000 := by rw [List.length_take]; omega
            clear hrs hcl hcz
            go_wp2_with (at_builtin; refine wpList_push rfl _ _ 62 rfl w.heap.size 9 1 16 _ Try.underlying62 info_str rfl (by decide) _ _ (((cutS s).take k).map strC) (strC ((restS s k).extract 0 128)) (by rfl) rfl rfl hown (by first | rfl | (simp; done)) rfl rfl (by rw [List.length_map]; omega) (by rw [List.length_map]; omega) hgs ?_; intro v' w5 hown5 hgr hbk hsz5)
            go_roundg (s.size / 128 - (k + 1))
            case measure => rw [HGK.out]; omega
            case rel => exact ⟨k + 1, by omega, by omega, by rw [← HN.out], by rw [HT.out, List.map_append, ← HH.out]; exact hown5, hgr _ hg (Nat.le_refl _)⟩
          · have hkn : 128 * k = s.size := by omega
            have he : restS s k = ⟨#[]⟩ := by
              apply ByteArray.ext
              apply Array.eq_empty_of_size_eq_zero
              show (restS s k).size = 0
              omega
            have HF := Lib.hid (show (cutS s).take k = cutS s from List.take_of_length_le (by rw [hcl]; omega))
            have HO := Lib.hid hown
            have HG9 := Lib.hid hg
            rw [he]
            clear hkn he hown hg hrs hcl hcz
            go_wp2_with fail
            go_ret
            exact ⟨_, rfl, by have := HO.out; rw [HF.out] at this; rw [HSE.out]; exact this, HG9.out⟩
end
end Go.Proofs.Ytnlaogneceanoaa
namespace Go.Proofs.Ytnlaogneceanoaa
set_option linter.unusedVariables false
set_option linter.unusedSimpArgs false
set_option linter.unusedSectionVars false
open Go.RowKit
attribute [local go_sem ↓] Go.wp_at_zero Go.wp_at_succ
theorem diffT_nil0 (T U : Tab) (h : (secT T).length = 0 ∨ (secT U).length = 0) : diffT T U = [] := by
  unfold diffT
  split
  · rename_i hc
    have h0 : (secT T).length = 0 := by omega
    rw [h0]; rfl
  · rfl
theorem diffT_nil1 (T U : Tab) (h : ¬ T.tracks = U.tracks) : diffT T U = [] := by
  unfold diffT
  rw [if_neg (fun hc => h hc.2)]
theorem diffT_full (T U : Tab) (h1 : (secT T).length ≠ 0) (h2 : (secT U).length ≠ 0) (ht : T.tracks = U.tracks) : diffT T U = diffP (secT T) (secT U) (secT U).length := by
  have hl := sec_same T U h1 h2 ht
  unfold diffT
  rw [if_pos ⟨hl, ht⟩, hl]
section
variable (A A2 : Option Addr) (c c2 : Nat) (xs ys : List LabE) (T U : Tab) (w : World)
set_option maxRecDepth 100000 in
set_option maxHeartbeats 8000000 in
theorem changes_tab (h : TabAt w A c xs T) (hs : SmallT T) (h2 : TabAt w A2 c2 ys U) (hs2 : SmallT U) :
    Calls Try.prog 26 #[.agg #[.string T.name, .int .i64 T.tracks, .slice A T.labels.length c], .agg #[.string U.name, .int .i64 U.tracks, .slice A2 U.labels.length c2]] w fun e w' => ∃ v, e = .returned v ∧ OwnL w' w.heap.size 67 2 v ((diffT T U).map wrC) ∧ Grew w w' := by
  have hg0 := ((Grew.refl w).alloc (.cells #[.string T.name, .int .i64 T.tracks, .slice A T.labels.length c] 34)).alloc (.cells #[.string U.name, .int .i64 U.tracks, .slice A2 U.labels.length c2] 34)
  have hb0 := (Blk.new w 34 #[.string T.name, .int .i64 T.tracks, .slice A T.labels.length c] rfl).alloc (.cells #[.string U.name, .int .i64 U.tracks, .slice A2 U.labels.length c2] 34)
  have hb1 := Blk.new (w.alloc (.cells #[.string T.name, .int .i64 T.tracks, .slice A T.labels.length c] 34)) 34 #[.string U.name, .int .i64 U.tracks, .slice A2 U.labels.length c2] (n := w.heap.size + 1) (by simp)
  have HB0 := Lib.hid hb0
  have HB1 := Lib.hid hb1
  have HT := Lib.hid h
  have HU := Lib.hid h2
  have HS := Lib.hid hs
  have HS2 := Lib.hid hs2
  have HG0 := Lib.hid hg0
  have hst := sec_short T hs.len
  have hsu := sec_short U hs2.len
  have HSG := Lib.hid (show ∀ w1 : World, Grew ((w.alloc (.cells #[.string T.name, .int .i64 T.tracks, .slice A T.labels.length c] 34)).alloc (.cells #[.string U.name, .int .i64 U.tracks, .slice A2 U.labels.length c2] 34)) w1 → (fun w' : World => w'.cell? ⟨w.heap.size, 0, none⟩ = some (.string T.name) ∧ w'.cell? ⟨w.heap.size, 1, none⟩ = some (.int .i64 T.tracks) ∧ w'.cell? ⟨w.heap.size, 2, none⟩ = some (.slice A T.labels.length c) ∧ w'.cell? ⟨w.heap.size + 1, 0, none⟩ = some (.string U.name) ∧ w'.cell? ⟨w.heap.size + 1, 1, none⟩ = some (.int .i64 U.tracks) ∧ w'.cell? ⟨w.heap.size + 1, 2, none⟩ = some (.slice A2 U.labels.length c2)) w1 from fun w1 g => ⟨(hb0.grew g).cell 0, (hb0.grew g).cell 1, (hb0.grew g).cell 2, (hb1.grew g).cell 0, (hb1.grew g).cell 1, (hb1.grew g).cell 2⟩)
  have hS := HSG.out _ (Grew.refl ((w.alloc (.cells #[.string T.name, .int .i64 T.tracks, .slice A T.labels.length c] 34)).alloc (.cells #[.string U.name, .int .i64 U.tracks, .slice A2 U.labels.length c2] 34))).drew
  have HGD := Lib.hid ((Grew.refl ((w.alloc (.cells #[.string T.name, .int .i64 T.tracks, .slice A T.labels.length c] 34)).alloc (.cells #[.string U.name, .int .i64 U.tracks, .slice A2 U.labels.length c2] 34))).drew)
  clear h hs h2 hs2 hb0 hb1 hg0
  go_enter Try.func26, Try.ntmps26
  go_wp2_with fail
  obtain ⟨w0, hw0⟩ : ∃ w0, w0 = (w.alloc (.cells #[.string T.name, .int .i64 T.tracks, .slice A T.labels.length c] 34)).alloc (.cells #[.string U.name, .int .i64 U.tracks, .slice A2 U.labels.length c2] 34) := ⟨_, rfl⟩
  have hw0s : w0.heap.size = w.heap.size + 2 := by rw [hw0]; simp
  rw [← hw0] at HB0 HB1 HG0 HSG HGD hS ⊢
  clear hw0
  refine wp_region_R [] (fun w' : World => w'.cell? ⟨w.heap.size, 0, none⟩ = some (.string T.name) ∧ w'.cell? ⟨w.heap.size, 1, none⟩ = some (.int .i64 T.tracks) ∧ w'.cell? ⟨w.heap.size, 2, none⟩ = some (.slice A T.labels.length c) ∧ w'.cell? ⟨w.heap.size + 1, 0, none⟩ = some (.string U.name) ∧ w'.cell? ⟨w.heap.size + 1, 1, none⟩ = some (.int .i64 U.tracks) ∧ w'.cell? ⟨w.heap.size + 1, 2, none⟩ = some (.slice A2 U.labels.length c2)) (by kernel_rfl) ?_
  refine wpAnyR_take (i := 0) (v := ?_) [1, 3, 4, 5] (some 9) rfl rfl (by kernel_rfl) (by kernel_rfl) (by kernel_rfl) (by kernel_rfl) (by kernel_rfl) (by kernel_rfl) (by kernel_rfl) (fun _ _ _ h => h) (Or.inl ⟨by rfl, ?_⟩) hS ?_
  rotate_left
  focus (intro wS hSw; (try dsimp only at hSw); go_simp; (try with_reducible rfl); (try (first | (rw [if_pos (by omega)]; (try go_simp); (try with_reducible rfl)) | (rw [if_neg (by omega)]; (try go_simp); (try with_reducible rfl)))))
  try simp only [Act.put, zA, zB, zC]
  refine wpAnyR_take (i := 2) (v := ?_) [3, 4, 5] (some 11) rfl rfl (by kernel_rfl) (by kernel_rfl) (by kernel_rfl) (by kernel_rfl) (by kernel_rfl) (by kernel_rfl) (by kernel_rfl) (fun _ _ _ h => h) (Or.inl ⟨by rfl, ?_⟩) hS ?_
  rotate_left
  focus (intro wS hSw; (try dsimp only at hSw); go_simp; (try with_reducible rfl); (try (first | (rw [if_pos (by omega)]; (try go_simp); (try with_reducible rfl)) | (rw [if_neg (by omega)]; (try go_simp); (try with_reducible rfl)))))
  try simp only [Act.put, zA, zB, zC]
  refine wpAnyR_n1 (i := 1) rfl (by kernel_rfl) ?_
  intro K' hK
  rw [if_pos (by rfl)]
  simp only [List.getElem_toArray, List.getElem_cons_succ, List.getElem_cons_zero]
  go_wp2_with fail
  refine (sectors_tab A c xs T _ (HT.out.hold (HG0.out.trans HGD.out)) HS.out).mono ?_
  rintro e w3 ⟨v3, rfl, ho3, g3⟩
  have G3 := HGD.out.trans g3
  obtain ⟨A3, c3, rfl, hl3, hc3, hr3⟩ := ho3.listAt
  go_wp2_with fail
  refine hK.out _ _ (.inr (fun _ => HSG.out _ G3)) ?_
  clear hK hS
  have hS := HSG.out _ G3
  refine wpAnyR_n1 (i := 3) rfl (by kernel_rfl) ?_
  intro K' hK
  rw [if_pos (by rfl)]
  simp only [List.getElem_toArray, List.getElem_cons_succ, List.getElem_cons_zero]
  go_wp2_with fail
  refine (sectors_tab A2 c2 ys U _ (HU.out.hold (HG0.out.trans G3)) HS2.out).mono ?_
  rintro e w4 ⟨v4, rfl, ho4, g4⟩
  have G4 := G3.trans g4
  obtain ⟨A4, c4, rfl, hl4, hc4, hr4⟩ := ho4.listAt
  go_wp2_with fail
  refine hK.out _ _ (.inr (fun _ => HSG.out _ G4)) ?_
  clear hK hS
  have hS := HSG.out _ G4
  refine wpAnyR_takeQ (i := 4) (v := ?_) (some 5) rfl rfl (by kernel_rfl) (by kernel_rfl) (by kernel_rfl) (by kernel_rfl) (fun _ _ _ h => h) (Or.inl ⟨by rfl, ?_⟩) ?_
  rotate_left
  focus (intro wS hSw; (try dsimp only at hSw); go_simp; (try with_reducible rfl); (try (first | (rw [if_pos (by omega)]; (try go_simp); (try with_reducible rfl)) | (rw [if_neg (by omega)]; (try go_simp); (try with_reducible rfl)))))
  try simp only [Act.put, zA, zB, zC]
  refine wpAnyR_takeQ (i := 5) (v := ?_) (some 6) rfl rfl (by kernel_rfl) (by kernel_rfl) (by kernel_rfl) (by kernel_rfl) (fun _ _ _ h => h) (Or.inl ⟨by rfl, ?_⟩) ?_
  rotate_left
  focus (intro wS hSw; (try dsimp only at hSw); go_simp; (try with_reducible rfl); (try (first | (rw [if_pos (by omega)]; (try go_simp); (try with_reducible rfl)) | (rw [if_neg (by omega)]; (try go_simp); (try with_reducible rfl)))))
  try simp only [Act.put, zA, zB, zC]
  refine wpAnyR_done (by kernel_rfl) ?_ _
  have HB2 := Lib.hid (HB0.out.grew G4)
  have HB3 := Lib.hid (HB1.out.grew G4)
  have HG4 := Lib.hid (HG0.out.trans G4)
  have HL3 := Lib.hid (hr3.keep (Nat.le_refl _) g4)
  have HL4 := Lib.hid hr4
  have hz3 : w3.heap.size ≤ w4.heap.size := g4.size
  have x1 := HB2.out.cell 1
  have u1 := HB3.out.cell 1
  have hbl := HB2.out.lt
  have hcl := HB3.out.lt
  clear hS ho3 ho4 hr3 hr4 g3 g4 G3 G4 hl3 hl4 hc3 hc4 HSG HGD
  have hn3 : (((secT T).map strC).length) = (secT T).length := List.length_map ..
  by_cases h0 : (secT T).length = 0
  · have hb : (((secT T).length : Int) == 0) = true := by rw [beq_iff_eq]; omega
    have HD := Lib.hid (diffT_nil0 T U (.inl h0))
    clear h0
    go_wp2_with fail
    go_ret
    exact ⟨_, rfl, by rw [HD.out]; exact OwnL.nil _ _ _ _, HG4.out⟩
  have hb : (((secT T).length : Int) == 0) = false := by rw [beq_eq_false_iff_ne]; omega
  by_cases h1 : (secT U).length = 0
  · have hc : (((secT U).length : Int) == 0) = true := by rw [beq_iff_eq]; omega
    have HD := Lib.hid (diffT_nil0 T U (.inr h1))
    clear h0 h1
    go_wp2_with fail
    go_ret
    exact ⟨_, rfl, by rw [HD.out]; exact OwnL.nil _ _ _ _, HG4.out⟩
  have hc : (((secT U).length : Int) == 0) = false := by rw [beq_eq_false_iff_ne]; omega
  by_cases ht : T.tracks = U.tracks
  rotate_left
  · have hd : (T.tracks != U.tracks) = true := by rw [bne_iff_ne]; exact ht
    have HD := Lib.hid (diffT_nil1 T U ht)
    clear h0 h1 ht
    go_wp2_with fail
    go_ret
    exact ⟨_, rfl, by rw [HD.out]; exact OwnL.nil _ _ _ _, HG4.out⟩
  have hd : (T.tracks != U.tracks) = false := by rw [bne_eq_false_iff_eq]; exact ht
  have HD := Lib.hid (diffT_full T U h0 h1 ht)
  have hsl := sec_same T U h0 h1 ht
  have HNX := Lib.hid (fun k (h1 : k < (secT T).length) (h2 : k < (secT U).length) => diffP_eq (secT T) (secT U) k h1 h2)
  have HNY := Lib.hid (fun k (h1 : k < (secT T).length) (h2 : k < (secT U).length) => diffP_ne (secT T) (secT U) k h1 h2)
  have HSL := Lib.hid hsl
  clear h0 h1 ht x1 u1 hsl
  have x1 := HB2.out.cell 1
  have u1 := HB3.out.cell 1
  generalize secT T = X at *
  generalize secT U = Y at *
  go_wp2_with fail
  go_loopg [7, 30] Y.length (fun gk ov i wr => ∃ k : Nat, k ≤ Y.length ∧ gk = Y.length - k ∧ i = .int .i64 k ∧ OwnL wr w4.heap.size 67 2 ov ((diffP X Y k).map wrC) ∧ Grew w4 wr)
  case atStart => exact ⟨0, by omega, by omega, rfl, OwnL.nil _ _ _ _, Grew.refl _⟩
  case round =>
    obtain ⟨k, hk, hgk, rfl, hown, hg⟩ := hrel
    have HGK := Lib.hid hgk
    have HG := Lib.hid hg
    have hgs := hg.size
    clear hgk hb hc hd x1 u1
    by_cases hlt : k < Y.length
    · have hlx : k < X.length := by have := HSL.out; omega
      obtain ⟨b1, o1, rfl, hb1, hc1⟩ := HL3.out (by rw [List.length_map]; omega)
      obtain ⟨b2, o2, rfl, hb2, hc2⟩ := HL4.out (by rw [List.length_map]; omega)
      obtain ⟨x, hx⟩ : ∃ x, X[k] = x := ⟨_, rfl⟩
      obtain ⟨y, hy⟩ : ∃ y, Y[k] = y := ⟨_, rfl⟩
      have hb1 : b1 < w4.heap.size := by omega
      have q0 : wr.cell? ⟨b1, o1 + k, none⟩ = some (.string x) := by
        rw [hg.cellEq _ _ hb1]
        have := hc1 k (strC x) (by rw [List.getElem?_map, List.getElem?_eq_getElem hlx, hx]; rfl) 0 _ rfl
        simpa using this
      have p0 : wr.cell? ⟨b2, o2 + k, none⟩ = some (.string y) := by
        rw [hg.cellEq _ _ hb2]
        have := hc2 k (strC y) (by rw [List.getElem?_map, List.getElem?_eq_getElem hlt, hy]; rfl) 0 _ rfl
        simpa using this
      have hb1r := Nat.lt_of_lt_of_le hb1 hgs
      have hb2r := Nat.lt_of_lt_of_le hb2 hgs
      have hS : (fun w' : World => w'.cell? ⟨b1, o1 + k, none⟩ = some (.string x) ∧ w'.cell? ⟨b2, o2 + k, none⟩ = some (.string y)) wr.drew := ⟨q0, p0⟩
      have HOWN := Lib.hid hown
      have hdl := diffP_len X Y k
      clear hc1 hc2 hg hown
      by_cases he : x = y
      · have HQ := Lib.hid (show (x.toList == y.toList) = true from by rw [he, beq_iff_eq])
        have HN := Lib.hid (show diffP X Y (k + 1) = diffP X Y k from HNX.out k hlx hlt (by rw [hx, hy, he]))
        clear he hx hy
        go_wp2_with fail
        refine wp_region_R [] (fun w' : World => w'.cell? ⟨b1, o1 + k, none⟩ = some (.string x) ∧ w'.cell? ⟨b2, o2 + k, none⟩ = some (.string y)) (by kernel_rfl) ?_
        refine wpAnyR_takeQ (i := 0) (v := ?_) (some 33) rfl rfl (by kernel_rfl) (by kernel_rfl) (by kernel_rfl) (by kernel_rfl) (fun _ _ _ h => h) (Or.inl ⟨by rfl, ?_⟩) ?_
        rotate_left
        focus (intro wS hSw; (try dsimp only at hSw); go_simp; (try with_reducible rfl); (try (first | (rw [if_pos (by omega)]; (try go_simp); (try with_reducible rfl)) | (rw [if_neg (by omega)]; (try go_simp); (try with_reducible rfl)))))
        try simp only [Act.put, zA, zB, zC]
        refine wpAnyR_takeQ (i := 1) (v := ?_) (some 34) rfl rfl (by kernel_rfl) (by kernel_rfl) (by kernel_rfl) (by kernel_rfl) (fun _ _ _ h => h) (Or.inl ⟨by rfl, ?_⟩) ?_
        rotate_left
        focus (intro wS hSw; (try dsimp only at hSw); go_simp; (try with_reducible rfl); (try (first | (rw [if_pos (by omega)]; (try go_simp); (try with_reducible rfl)) | (rw [if_neg (by omega)]; (try go_simp); (try with_reducible rfl)))))
        try simp only [Act.put, zA, zB, zC]
        refine wpAnyR_takeQ (i := 2) (v := ?_) (some 35) rfl rfl (by kernel_rfl) (by kernel_rfl) (by kernel_rfl) (by kernel_rfl) (fun _ _ _ h => h) (Or.inl ⟨by rfl, ?_⟩) ?_
        rotate_left
        focus (intro wS hSw; (try dsimp only at hSw); go_simp; (try with_reducible rfl); (try (first | (rw [if_pos (by omega)]; (try go_simp); (try with_reducible rfl)) | (rw [if_neg (by omega)]; (try go_simp); (try with_reducible rfl)))))
        try simp only [Act.put, zA, zB, zC]
        refine wpAnyR_take (i := 3) (v := ?_) [8] (some 36) rfl rfl (by kernel_rfl) (by kernel_rfl) (by kernel_rfl) (by kernel_rfl) (by kernel_rfl) (by kernel_rfl) (by kernel_rfl) (fun _ _ _ h => h) (Or.inl ⟨by rfl, ?_⟩) hS ?_
        rotate_left
        focus (intro wS hSw; (try dsimp only at hSw); go_simp; (try with_reducible rfl); (try (first | (rw [if_pos (by omega)]; (try go_simp); (try with_reducible rfl)) | (rw [if_neg (by omega)]; (try go_simp); (try with_reducible rfl)))))
        try simp only [Act.put, zA, zB, zC]
        refine wpAnyR_takeQ (i := 4) (v := ?_) (some 37) rfl rfl (by kernel_rfl) (by kernel_rfl) (by kernel_rfl) (by kernel_rfl) (fun _ _ _ h => h) (Or.inl ⟨by rfl, ?_⟩) ?_
        rotate_left
        focus (intro wS hSw; (try dsimp only at hSw); go_simp; (try with_reducible rfl); (try (first | (rw [if_pos (by omega)]; (try go_simp); (try with_reducible rfl)) | (rw [if_neg (by omega)]; (try go_simp); (try with_reducible rfl)))))
        try simp only [Act.put, zA, zB, zC]
        refine wpAnyR_takeQ (i := 5) (v := ?_) (some 38) rfl rfl (by kernel_rfl) (by kernel_rfl) (by kernel_rfl) (by kernel_rfl) (fun _ _ _ h => h) (Or.inl ⟨by rfl, ?_⟩) ?_
        rotate_left
        focus (intro wS hSw; (try dsimp only at hSw); go_simp; (try with_reducible rfl); (try (first | (rw [if_pos (by omega)]; (try go_simp); (try with_reducible rfl)) | (rw [if_neg (by omega)]; (try go_simp); (try with_reducible rfl)))))
        try simp only [Act.put, zA, zB, zC]
        refine wpAnyR_takeQ (i := 6) (v := ?_) (some 39) rfl rfl (by kernel_rfl) (by kernel_rfl) (by kernel_rfl) (by kernel_rfl) (fun _ _ _ h => h) (Or.inl ⟨by rfl, ?_⟩) ?_
        rotate_left
        focus (intro wS hSw; (try dsimp only at hSw); go_simp; (try with_reducible rfl); (try (first | (rw [if_pos (by omega)]; (try go_simp); (try with_reducible rfl)) | (rw [if_neg (by omega)]; (try go_simp); (try with_reducible rfl)))))
        try simp only [Act.put, zA, zB, zC]
        refine wpAnyR_take (i := 7) (v := ?_) [8] (some 40) rfl rfl (by kernel_rfl) (by kernel_rfl) (by kernel_rfl) (by kernel_rfl) (by kernel_rfl) (by kernel_rfl) (by kernel_rfl) (fun _ _ _ h => h) (Or.inl ⟨by rfl, ?_⟩) hS ?_
        rotate_left
        focus (intro wS hSw; (try dsimp only at hSw); go_simp; (try with_reducible rfl); (try (first | (rw [if_pos (by omega)]; (try go_simp); (try with_reducible rfl)) | (rw [if_neg (by omega)]; (try go_simp); (try with_reducible rfl)))))
        try simp only [Act.put, zA, zB, zC]
        refine wpAnyR_takeQ (i := 8) (v := ?_) (some 41) rfl rfl (by kernel_rfl) (by kernel_rfl) (by kernel_rfl) (by kernel_rfl) (fun _ _ _ h => h) (Or.inl ⟨by rfl, ?_⟩) ?_
        rotate_left
        focus (intro wS hSw; (try dsimp only at hSw); go_simp; (try with_reducible rfl); (try (first | (rw [if_pos (by omega)]; (try go_simp); (try with_reducible rfl)) | (rw [if_neg (by omega)]; (try go_simp); (try with_reducible rfl)))))
        try simp only [Act.put, zA, zB, zC]
        try rw [HQ.out]
        refine wpAnyR_done (by kernel_rfl) ?_ _
        clear hS q0 p0
        go_wp2_with fail
        go_roundg (Y.length - (k + 1))
        case measure => rw [HGK.out]; omega
        case rel => exact ⟨k + 1, by omega, by omega, by go_num, by rw [HN.out]; exact HOWN.out.drew, HG.out.drew⟩
      · have HQ := Lib.hid (show (x.toList == y.toList) = false from beq_eq_false_iff_ne.2 (fun e => he (bytes_eq (by simpa [ByteArray.toList_eq] using e))))
        have HN := Lib.hid (show diffP X Y (k + 1) = diffP X Y k ++ [((k : Int), y)] from by rw [HNY.out k hlx hlt (by rw [hx, hy]; exact he), hy])
        clear he hx hy
        go_wp2_with fail
        refine wp_region_R [] (fun w' : World => w'.cell? ⟨b1, o1 + k, none⟩ = some (.string x) ∧ w'.cell? ⟨b2, o2 + k, none⟩ = some (.string y)) (by kernel_rfl) ?_
        refine wpAnyR_takeQ (i := 0) (v := ?_) (some 33) rfl rfl (by kernel_rfl) (by kernel_rfl) (by kernel_rfl) (by kernel_rfl) (fun _ _ _ h => h) (Or.inl ⟨by rfl, ?_⟩) ?_
        rotate_left
        focus (intro wS hSw; (try dsimp only at hSw); go_simp; (try with_reducible rfl); (try (first | (rw [if_pos (by omega)]; (try go_simp); (try with_reducible rfl)) | (rw [if_neg (by omega)]; (try go_simp); (try with_reducible rfl)))))
        try simp only [Act.put, zA, zB, zC]
        refine wpAnyR_takeQ (i := 1) (v := ?_) (some 34) rfl rfl (by kernel_rfl) (by kernel_rfl) (by kernel_rfl) (by kernel_rfl) (fun _ _ _ h => h) (Or.inl ⟨by rfl, ?_⟩) ?_
        rotate_left
        focus (intro wS hSw; (try dsimp only at hSw); go_simp; (try with_reducible rfl); (try (first | (rw [if_pos (by omega)]; (try go_simp); (try with_reducible rfl)) | (rw [if_neg (by omega)]; (try go_simp); (try with_reducible rfl)))))
        try simp only [Act.put, zA, zB, zC]
        refine wpAnyR_takeQ (i := 2) (v := ?_) (some 35) rfl rfl (by kernel_rfl) (by kernel_rfl) (by kernel_rfl) (by kernel_rfl) (fun _ _ _ h => h) (Or.inl ⟨by rfl, ?_⟩) ?_
        rotate_left
        focus (intro wS hSw; (try dsimp only at hSw); go_simp; (try with_reducible rfl); (try (first | (rw [if_pos (by omega)]; (try go_simp); (try with_reducible rfl)) | (rw [if_neg (by omega)]; (try go_simp); (try with_reducible rfl)))))
        try simp only [Act.put, zA, zB, zC]
        refine wpAnyR_take (i := 3) (v := ?_) [8] (some 36) rfl rfl (by kernel_rfl) (by kernel_rfl) (by kernel_rfl) (by kernel_rfl) (by kernel_rfl) (by kernel_rfl) (by kernel_rfl) (fun _ _ _ h => h) (Or.inl ⟨by rfl, ?_⟩) hS ?_
        rotate_left
        focus (intro wS hSw; (try dsimp only at hSw); go_simp; (try with_reducible rfl); (try (first | (rw [if_pos (by omega)]; (try go_simp); (try with_reducible rfl)) | (rw [if_neg (by omega)]; (try go_simp); (try with_reducible rfl)))))
        try simp only [Act.put, zA, zB, zC]
        refine wpAnyR_takeQ (i := 4) (v := ?_) (some 37) rfl rfl (by kernel_rfl) (by kernel_rfl) (by kernel_rfl) (by kernel_rfl) (fun _ _ _ h => h) (Or.inl ⟨by rfl, ?_⟩) ?_
        rotate_left
        focus (intro wS hSw; (try dsimp only at hSw); go_simp; (try with_reducible rfl); (try (first | (rw [if_pos (by omega)]; (try go_simp); (try with_reducible rfl)) | (rw [if_neg (by omega)]; (try go_simp); (try with_reducible rfl)))))
        try simp only [Act.put, zA, zB, zC]
        refine wpAnyR_takeQ (i := 5) (v := ?_) (some 38) rfl rfl (by kernel_rfl) (by kernel_rfl) (by kernel_rfl) (by kernel_rfl) (fun _ _ _ h => h) (Or.inl ⟨by rfl, ?_⟩) ?_
        rotate_left
        focus (intro wS hSw; (try dsimp only at hSw); go_simp; (try with_reducible rfl); (try (first | (rw [if_pos (by omega)]; (try go_simp); (try with_reducible rfl)) | (rw [if_neg (by omega)]; (try go_simp); (try with_reducible rfl)))))
        try simp only [Act.put, zA, zB, zC]
        refine wpAnyR_takeQ (i := 6) (v := ?_) (some 39) rfl rfl (by kernel_rfl) (by kernel_rfl) (by kernel_rfl) (by kernel_rfl) (fun _ _ _ h => h) (Or.inl ⟨by rfl, ?_⟩) ?_
        rotate_left
        focus (intro wS hSw; (try dsimp only at hSw); go_simp; (try with_reducible rfl); (try (first | (rw [if_pos (by omega)]; (try go_simp); (try with_reducible rfl)) | (rw [if_neg (by omega)]; (try go_simp); (try with_reducible rfl)))))
        try simp only [Act.put, zA, zB, zC]
        refine wpAnyR_take (i := 7) (v := ?_) [8] (some 40) rfl rfl (by kernel_rfl) (by kernel_rfl) (by kernel_rfl) (by kernel_rfl) (by kernel_rfl) (by kernel_rfl) (by kernel_rfl) (fun _ _ _ h => h) (Or.inl ⟨by rfl, ?_⟩) hS ?_
        rotate_left
        focus (intro wS hSw; (try dsimp only at hSw); go_simp; (try with_reducible rfl); (try (first | (rw [if_pos (by omega)]; (try go_simp); (try with_reducible rfl)) | (rw [if_neg (by omega)]; (try go_simp); (try with_reducible rfl)))))
        try simp only [Act.put, zA, zB, zC]
        refine wpAnyR_takeQ (i := 8) (v := ?_) (some 41) rfl rfl (by kernel_rfl) (by kernel_rfl) (by kernel_rfl) (by kernel_rfl) (fun _ _ _ h => h) (Or.inl ⟨by rfl, ?_⟩) ?_
        rotate_left
        focus (intro wS hSw; (try dsimp only at hSw); go_simp; (try with_reducible rfl); (try (first | (rw [if_pos (by omega)]; (try go_simp); (try with_reducible rfl)) | (rw [if_neg (by omega)]; (try go_simp); (try with_reducible rfl)))))
        try simp only [Act.put, zA, zB, zC]
        try rw [HQ.out]
        refine wpAnyR_done (by kernel_rfl) ?_ _
        clear hS
        obtain ⟨wz, hwz⟩ : ∃ wz, wz = wr.drew := ⟨_, rfl⟩
        have HOZ := Lib.hid (show OwnL wz w4.heap.size 67 2 _ ((diffP X Y k).map wrC) from by rw [hwz]; exact HOWN.out.drew)
        have HGZ := Lib.hid (show Grew w4 wz from by rw [hwz]; exact HG.out.drew)
        have p0 : wz.cell? ⟨b2, o2 + k, none⟩ = some (.string y) := by rw [hwz]; exact p0
        have hb2r : b2 < wz.heap.size := by rw [hwz]; exact hb2r
        have hgz : w4.heap.size ≤ wz.heap.size := by rw [hwz]; exact hgs
        rw [← hwz]
        clear hwz q0 hgs hb1r
        go_wp2_with (at_builtin; refine wpList_push rfl _ _ 59 rfl w4.heap.size 67 2 24 _ Try.underlying59 info_write rfl (by decide) wz _ ((diffP X Y k).map wrC) (wrC ((k : Int), y)) (by rfl) rfl rfl HOZ.out (by first | rfl | (simp; done)) rfl rfl (by rw [List.length_map]; omega) (by rw [List.length_map]; omega) hgz ?_; intro v' w5 hown5 hgr hbk hsz)
        have HO5 := Lib.hid hown5
        have HG5 := Lib.hid (hgr _ HGZ.out (Nat.le_refl _))
        clear hown5 hgr hbk p0
        go_roundg (Y.length - (k + 1))
        case measure => rw [HGK.out]; omega
        case rel => exact ⟨k + 1, by omega, by omega, by go_num, by rw [HN.out, List.map_append]; exact HO5.out, HG5.out⟩
    · have hkn : k = Y.length := by omega
      subst hkn
      have HO := Lib.hid (hown.lower2 (b' := w.heap.size) (by have := HG4.out.size; omega))
      clear hown hg
      go_wp2_with fail
      go_ret
      exact ⟨_, rfl, by rw [HD.out]; exact HO.out, HG4.out.trans HG.out⟩
end
end Go.Proofs.Ytnlaogneceanoaa
namespace Go.Proofs.Ytnlaogneceanoaa
set_option linter.unusedVariables false
set_option linter.unusedSimpArgs false
set_option linter.unusedSectionVars false
open Go.RowKit
/-- The strings of a list, one behind the other. -/
def catS (l : List ByteArray) : ByteArray := l.foldl (· ++ ·) ⟨#[]⟩
theorem catS_nil : catS [] = ⟨#[]⟩ := rfl
theorem fold_cat (l : List ByteArray) : ∀ a : ByteArray, l.foldl (· ++ ·) a = a ++ catS l := by
  induction l with
  | nil => intro a; exact ByteArray.append_empty.symm
  | cons x l ih =>
    intro a
    show l.foldl (· ++ ·) (a ++ x) = a ++ l.foldl (· ++ ·) (⟨#[]⟩ ++ x)
    rw [ih (a ++ x), ih (⟨#[]⟩ ++ x), ByteArray.append_assoc]
    congr 2
theorem catS_cons (x : ByteArray) (l : List ByteArray) : catS (x :: l) = x ++ catS l := by
  show l.foldl (· ++ ·) (⟨#[]⟩ ++ x) = _
  rw [fold_cat]
  congr 1
theorem catS_snoc (l : List ByteArray) (x : ByteArray) : catS (l ++ [x]) = catS l ++ x := by unfold catS; rw [List.foldl_append]; rfl
theorem catS_size (m : Nat) (l : List ByteArray) (h : ∀ x ∈ l, x.size ≤ m) : (catS l).size ≤ m * l.length := by
  induction l with
  | nil => exact Nat.zero_le _
  | cons x l ih =>
    have h1 := ih (fun y hy => h y (List.mem_cons_of_mem _ hy))
    have h2 := h x (List.mem_cons_self ..)
    rw [catS_cons, ByteArray.size_append, List.length_cons, Nat.mul_add]
    omega
theorem cutS_one (x : ByteArray) (h : x.size = 128) : cutS x = [x] := by
  unfold cutS
  rw [h]
  simp only [show 128 / 128 = 1 from rfl, List.range_one, List.map_cons, List.map_nil, Nat.mul_zero, Nat.zero_add]
  rw [← h]
  simp
theorem cut_cat (l : List ByteArray) (h : ∀ x ∈ l, x.size = 128) : cutS (catS l) = l := by
  induction l with
  | nil => rfl
  | cons x l ih =>
    have hx := h x (List.mem_cons_self ..)
    rw [catS_cons, cutS_app _ _ (by rw [hx]), ih (fun y hy => h y (List.mem_cons_of_mem _ hy)), cutS_one x hx]
    rfl
theorem cutS_mem (s : ByteArray) : ∀ x ∈ cutS s, x.size = 128 := by
  intro x hx
  obtain ⟨i, hi, rfl⟩ := List.getElem_of_mem hx
  rw [cutS_len] at hi
  rw [cutS_get, ByteArray.size_extract]
  omega
theorem cat_take (s : ByteArray) : ∀ k, 128 * k ≤ s.size → catS ((cutS s).take k) = s.extract 0 (128 * k) := by
  intro k
  induction k with
  | zero => intro _; simp [catS]; rfl
  | succ k ih =>
    intro hk
    rw [cutS_take s k (by omega), catS_snoc, ih (by omega)]
    rw [ByteArray.extract_append_extract]
    congr 1 <;> omega
theorem cat_cut (s : ByteArray) (h : s.size % 128 = 0) : catS (cutS s) = s := by
  have h1 := cat_take s (s.size / 128) (by omega)
  rw [List.take_of_length_le (by rw [cutS_len]; omega)] at h1
  rw [h1]
  have : 128 * (s.size / 128) = s.size := by omega
  rw [this]
  simp
/-- The track that starts at sector 8 n. -/
def trkS (ss : List ByteArray) (n : Nat) : ByteArray := catS ((ss.drop (8 * n)).take 8)
theorem trkS_size (m : Nat) (ss : List ByteArray) (n : Nat) (h : ∀ x ∈ ss, x.size ≤ m) : (trkS ss n).size ≤ m * 8 := by
  unfold trkS
  have h1 := catS_size m ((ss.drop (8 * n)).take 8) (fun x hx => h x (List.mem_of_mem_drop (List.mem_of_mem_take hx)))
  have h2 : ((ss.drop (8 * n)).take 8).length ≤ 8 := by rw [List.length_take]; omega
  exact Nat.le_trans h1 (Nat.mul_le_mul_left m h2)
theorem sec_split (T : Tab) (hv : validT T = true) : ∀ d k, k + d = T.labels.length → ∃ R, cutS (bodyS T T.labels.length) = cutS (bodyS T k) ++ R := by
  intro d
  induction d with
  | zero => intro k hk; exact ⟨[], by rw [List.append_nil]; congr 2; omega⟩
  | succ d ih =>
    intro k hk
    obtain ⟨R, hR⟩ := ih (k + 1) (by omega)
    rw [hR, cut_next T hv k (by omega), List.append_assoc]
    exact ⟨_, rfl⟩
theorem sec_facts (T : Tab) (hv : validT T = true) (ss : List ByteArray) (h : secT T = ss) :
    ss.length = 8 * (T.labels.length + 1) ∧ (∀ x ∈ ss, x.size = 128) ∧ trkS ss 0 = headS T.name T.tracks ∧ ∀ k (hk : k < T.labels.length), trkS ss (k + 1) = encS T.labels[k] T.tracks := by
  unfold secT at h
  rw [if_pos hv] at h
  subst h
  refine ⟨by rw [cutS_len, body_size T hv _ (Nat.le_refl _)]; omega, cutS_mem _, ?_, fun k hk => ?_⟩
  · obtain ⟨R, hR⟩ := sec_split T hv T.labels.length 0 (by omega)
    have h1 := head_1024 T hv
    unfold trkS
    rw [hR, bodyS_zero, Nat.mul_zero, List.drop_zero, List.take_append_of_le_length (by rw [cutS_len, h1]; decide), List.take_of_length_le (by rw [cutS_len, h1]; decide), cat_cut _ (by rw [h1])]
  · obtain ⟨R, hR⟩ := sec_split T hv (T.labels.length - (k + 1)) (k + 1) (by omega)
    have h1 := body_size T hv k (by omega)
    have h2 := lab_1024 T.tracks ((validT_iff T).1 hv).tr T.labels[k] (((validT_iff T).1 hv).ok _ (List.getElem_mem hk))
    unfold trkS
    rw [hR, cut_next T hv k hk, List.append_assoc, List.drop_append_of_le_length (by rw [cutS_len, h1]; omega), List.drop_of_length_le (by rw [cutS_len, h1]; omega), List.nil_append]
    rw [List.take_append_of_le_length (by rw [cutS_len, h2]; decide), List.take_of_length_le (by rw [cutS_len, h2]; decide), cat_cut _ (by rw [h2])]
theorem head_trip (n : ByteArray) (t : Int) (hn : nameOk n = true) (ht : okT t = true) : headP (headS n t) = (n, t, 0) := by
  have hp : NameP n := of_decide_eq_true hn
  have hb := okT_true ht
  have hl : n.data.toList.length = n.size := Array.length_toList
  have e0 : headS n t = ⟨(enc n.data.toList.length ++ (n.data.toList ++ (enc t.toNat ++ List.replicate (1024 - (eB n.size ++ n ++ eB t.toNat).size) 0))).toArray⟩ := by
    unfold headS
    rw [if_pos ⟨hn, ht⟩]
    apply bytes_eq
    unfold padS zeros
    rw [hl]
    simp only [ByteArray.data_append, Array.toList_append, Array.toList_replicate, List.append_assoc]
    rfl
  have q1 := (congrArg hdN e0).trans (RTxt_app n.data.toList _ 8 (by have := hp.2.1; omega) (by have := hp.2.1; omega))
  have q2 : hdT (headS n t) = RCnt (hdN (headS n t)).2.1 (hdN (headS n t)).2.2 128 := rfl
  rw [q1] at q2
  have q2 := q2.trans (RCnt_app t.toNat _ 128 (by omega) (by omega))
  have hN : (hdN (headS n t)).1 = n := by rw [q1]
  have hT : ((hdT (headS n t)).1 : Int) = t := by rw [q2]; exact Int.toNat_of_nonneg (by omega)
  have hE : hdE (headS n t) = headS n t := by unfold hdE; rw [hN, hT]
  have hz : headS n t ≠ ⟨#[]⟩ := fun e => by
    have h1 : (headS n t).size = 1024 := by
      unfold headS
      rw [if_pos ⟨hn, ht⟩]
      refine padS_size _ _ ?_
      have := hp.2.1
      have z1 := eB_size n.size
      have z2 := eB_size t.toNat
      rw [ByteArray.size_append, ByteArray.size_append]
      omega
    rw [e] at h1
    exact absurd h1 (by decide)
  unfold headP
  rw [hE, if_neg (fun h => h.elim hz (fun h => h rfl)), hN, hT]
theorem lab_trip (l : Lab) (t : Int) (ht : okT t = true) (h : emL l = true ∨ validL l t = true) : decP (encS l t) t = (l, 0) := by
  rcases h with h | h
  · rw [(emL_iff l).1 h]
    have e1 : encS labZ t = padS 1024 ⟨#[]⟩ := by unfold encS; rw [if_pos ⟨ht, (eqL_iff _ _).2 rfl⟩]
    have e2 : (padS 1024 ⟨#[]⟩).size = 1024 := padS_size _ _ (by decide)
    unfold decP
    rw [e1, if_neg (by rw [ht, e2]; simp), if_pos rfl]
  · exact dec_enc_lab l t h (encS_size l t h)
/-- The tables with these sectors. -/
def SecOf (ss : List ByteArray) (T : Tab) : Prop := validT T = true ∧ secT T = ss
theorem SecOf.head {ss : List ByteArray} {T : Tab} (h : SecOf ss T) : headP (trkS ss 0) = (T.name, T.tracks, 0) := by
  have hg := (validT_iff T).1 h.1
  rw [(sec_facts T h.1 ss h.2).2.2.1, head_trip _ _ hg.nm hg.tr]
theorem SecOf.lab {ss : List ByteArray} {T : Tab} (h : SecOf ss T) (k : Nat) (hk : k < T.labels.length) : decP (trkS ss (k + 1)) T.tracks = (T.labels[k], 0) := by
  have hg := (validT_iff T).1 h.1
  rw [(sec_facts T h.1 ss h.2).2.2.2 k hk, lab_trip _ _ hg.tr (hg.ok _ (List.getElem_mem hk))]
theorem SecOf.unique {ss : List ByteArray} {T U : Tab} (h : SecOf ss T) (g : SecOf ss U) : T = U := by
  have e := h.head.symm.trans g.head
  injection e with e1 e2
  injection e2 with e2 e3
  have hl : T.labels.length = U.labels.length := by
    have g1 := (sec_facts T h.1 ss h.2).1
    have g2 := (sec_facts U g.1 ss g.2).1
    omega
  have hL : T.labels = U.labels := by
    refine List.ext_getElem hl (fun k h1 h2 => ?_)
    have p1 := h.lab k h1
    have p2 := g.lab k h2
    rw [e2] at p1
    exact congrArg Prod.fst (p1.symm.trans p2)
  cases T; cases U
  simp only at e1 e2 hL
  rw [e1, e2, hL]
/-- What Load returns: the table with these sectors, or an error. -/
def LdS (ss : List ByteArray) (T : Tab) (er : Int) : Prop := (SecOf ss T ∧ er = 0) ∨ ((∀ U, ¬ SecOf ss U) ∧ T = tabZ ∧ er = 11)
theorem LdS.unique {ss : List ByteArray} {T U : Tab} {e f : Int} (h : LdS ss T e) (g : LdS ss U f) : T = U ∧ e = f := by
  rcases h with ⟨h1, h2⟩ | ⟨h1, h2, h3⟩
  · rcases g with ⟨g1, g2⟩ | ⟨g1, _⟩
    · exact ⟨h1.unique g1, by rw [h2, g2]⟩
    · exact absurd h1 (g1 T)
  · rcases g with ⟨g1, _⟩ | ⟨_, g2, g3⟩
    · exact absurd g1 (h1 U)
    · exact ⟨by rw [h2, g2], by rw [h3, g3]⟩
end Go.Proofs.Ytnlaogneceanoaa
