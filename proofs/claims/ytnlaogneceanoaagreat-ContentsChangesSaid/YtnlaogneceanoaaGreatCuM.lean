/- Chapter 8: the reference's Extend, Release, Replace, Confirm, Note, Remove. Chapter 8: the reference's Replace. -/
import Derived.Test.YtnlaogneceanoaaGreatCuK
import Derived.Test.YtnlaogneceanoaaGreatCuL
namespace Go.Proofs.YtnlaogneceanoaaGreat
set_option linter.unusedVariables false
set_option linter.unusedSimpArgs false
set_option linter.unusedSectionVars false
open Go.RowKit
attribute [local go_sem ↓] Go.wp_at_zero Go.wp_at_succ
section
variable (A : Option Addr) (c : Nat) (xs : List LabE) (T : Tab) (id unit : Int) (w : World)
def findE (T : Tab) (id unit : Int) : Int × Int := if validT T = true then (if 0 ≤ idxT T id unit then (idxT T id unit, 0) else (-1, 6)) else (-1, 1)
set_option maxRecDepth 100000 in
set_option maxHeartbeats 4000000 in
theorem rfd_any (h : TabAt w A c xs T) (hs : SmallT T) (i e : Int) (he : findE T id unit = (i, e)) :
    Calls Tryz.prog 124 #[.agg #[.string T.name, .int .i64 T.tracks, .slice A T.labels.length c], .agg #[.int .i64 id, .int .i64 unit]] w fun en w' => en = .returned (.tuple #[.int .i64 i, .int .i64 e]) ∧ Grew w w' := by
  have hg0 := ((Grew.refl w).alloc (.cells #[.string T.name, .int .i64 T.tracks, .slice A T.labels.length c] 24)).alloc (.cells #[.int .i64 id, .int .i64 unit] 26)
  have HB0 := Lib.hid ((Blk.new w 24 #[.string T.name, .int .i64 T.tracks, .slice A T.labels.length c] rfl).alloc (.cells #[.int .i64 id, .int .i64 unit] 26))
  have HR0 := Lib.hid (Blk.new (w.alloc (.cells #[.string T.name, .int .i64 T.tracks, .slice A T.labels.length c] 24)) 26 #[.int .i64 id, .int .i64 unit] (n := w.heap.size + 1) (by simp))
  have HV := Lib.hid (rvalid_tab A c xs T _ (h.hold hg0) hs _ rfl)
  have HI := Lib.hid (fun w1 (hg : Grew w w1) ix hix => rindex_any A c xs T id unit w1 (h.hold hg) hs _ rfl ix hix)
  have HG0 := Lib.hid hg0
  clear h hs hg0
  cases hv : validT T with
  | false =>
    have hx : findE T id unit = (-1, 1) := by unfold findE; rw [if_neg (by rw [hv]; simp)]
    rw [hx] at he
    injection he with e1 e2
    subst e1; subst e2
    have HVF := Lib.hid hv
    clear hv hx
    go_enter Tryz.func124, Tryz.ntmps124
    go_wp2_with fail
    refine HV.out.mono ?_
    rintro en w1 ⟨rfl, g1⟩
    rw [HVF.out]
    go_wp2_with fail
    go_returns
    exact ⟨rfl, HG0.out.trans g1⟩
  | true =>
    have HVF := Lib.hid hv
    obtain ⟨ix, hix⟩ : ∃ ix, idxT T id unit = ix := ⟨_, rfl⟩
    have hx : findE T id unit = if 0 ≤ ix then (ix, 0) else (-1, 6) := by unfold findE; rw [if_pos hv, hix]
    rw [hx] at he
    have HIX := Lib.hid hix
    clear hv hx hix
    by_cases h0 : 0 ≤ ix
    · rw [if_pos h0] at he
      injection he with e1 e2
      subst e1; subst e2
      have h0' : ¬ ix < 0 := by omega
      go_enter Tryz.func124, Tryz.ntmps124
      go_wp2_with fail
      refine HV.out.mono ?_
      rintro en w1 ⟨rfl, g1⟩
      rw [HVF.out]
      have hb1 := HB0.out.grew g1
      have x0 := hb1.cell 0
      have x1 := hb1.cell 1
      have x2 := hb1.cell 2
      have hbl := hb1.lt
      have hr1 := HR0.out.grew g1
      have r0 := hr1.cell 0
      have r1 := hr1.cell 1
      have hrl := hr1.lt
      have HG1 := Lib.hid (HG0.out.trans g1)
      clear hb1 hr1 g1
      go_wp2_with fail
      refine (HI.out _ HG1.out _ HIX.out).mono ?_
      rintro en w2 ⟨rfl, g2⟩
      go_wp2_with fail
      go_returns
      exact ⟨rfl, HG1.out.trans g2⟩
    · rw [if_neg h0] at he
      injection he with e1 e2
      subst e1; subst e2
      have h0' : ix < 0 := by omega
      go_enter Tryz.func124, Tryz.ntmps124
      go_wp2_with fail
      refine HV.out.mono ?_
      rintro en w1 ⟨rfl, g1⟩
      rw [HVF.out]
      have hb1 := HB0.out.grew g1
      have x0 := hb1.cell 0
      have x1 := hb1.cell 1
      have x2 := hb1.cell 2
      have hbl := hb1.lt
      have hr1 := HR0.out.grew g1
      have r0 := hr1.cell 0
      have r1 := hr1.cell 1
      have hrl := hr1.lt
      have HG1 := Lib.hid (HG0.out.trans g1)
      clear hb1 hr1 g1
      go_wp2_with fail
      refine (HI.out _ HG1.out _ HIX.out).mono ?_
      rintro en w2 ⟨rfl, g2⟩
      go_wp2_with fail
      go_returns
      exact ⟨rfl, HG1.out.trans g2⟩
set_option maxRecDepth 100000 in
set_option maxHeartbeats 8000000 in
theorem rremove_tab (h : TabAt w A c xs T) (hs : SmallT T)  (T' : Tab) (er : Int) (hr : chgT T id unit (chRem T) = (T', er)) :
    Calls Tryz.prog 74 #[.agg #[.string T.name, .int .i64 T.tracks, .slice A T.labels.length c], .agg #[.int .i64 id, .int .i64 unit]] w (TabR w T' er) := by
  have hg0 := ((((Grew.refl w).alloc (.cells #[.string T.name, .int .i64 T.tracks, .slice A T.labels.length c] 24)).alloc (.cells #[.int .i64 id, .int .i64 unit] 26))).alloc (.cells #[.string ⟨#[]⟩, .int .i64 0, .slice none 0 0] 24)
  have HB0 := Lib.hid (((Blk.new w 24 #[.string T.name, .int .i64 T.tracks, .slice A T.labels.length c] rfl).alloc (.cells #[.int .i64 id, .int .i64 unit] 26)).alloc (.cells #[.string ⟨#[]⟩, .int .i64 0, .slice none 0 0] 24))
  have HR0 := Lib.hid ((Blk.new (w.alloc (.cells #[.string T.name, .int .i64 T.tracks, .slice A T.labels.length c] 24)) 26 #[.int .i64 id, .int .i64 unit] (n := w.heap.size + 1) (by simp)).alloc (.cells #[.string ⟨#[]⟩, .int .i64 0, .slice none 0 0] 24))
  have HZ0 := Lib.hid (Blk.new ((w.alloc (.cells #[.string T.name, .int .i64 T.tracks, .slice A T.labels.length c] 24)).alloc (.cells #[.int .i64 id, .int .i64 unit] 26)) 24 #[.string ⟨#[]⟩, .int .i64 0, .slice none 0 0] (n := w.heap.size + 1 + 1) (by simp))
  have HFI := Lib.hid (fun w1 (hg : Grew w w1) i e he => rfd_any A c xs T id unit w1 (h.hold hg) hs i e he)
  have HFR := Lib.hid (fun w1 (hg : Grew w w1) kf hkf => rfree_tab A c xs T w1 (h.hold hg) hs _ rfl kf hkf)
  have HIX := Lib.hid (fun w1 (hg : Grew w w1) u ix hix => rindex_any A c xs T id u w1 (h.hold hg) hs _ rfl ix hix)
  have HTB := Lib.hid h
  have HS := Lib.hid hs
  have hlen := hs.len
  have hnm := h.name
  have ht0 := h.tr0
  have ht1 := h.tr1
  have HG0 := Lib.hid hg0
  clear h hs hg0
  rcases chgT_cases T id unit (chRem T) with ⟨hv, hx⟩ | ⟨hv, hi, hx⟩ | ⟨hv, k, hk, hi, hhit, hx⟩
  · rw [hx] at hr
    injection hr with e1 e2
    subst e1; subst e2
    have HX := Lib.hid (show findE T id unit = (-1, 1) from by unfold findE; rw [if_neg (by rw [hv]; simp)])
    clear hv hx
    go_enter Tryz.func74, Tryz.ntmps74
    go_wp2_with fail
    refine (HFI.out _ HG0.out _ _ HX.out).mono ?_
    rintro e w1 ⟨rfl, g1⟩
    have HG1 := Lib.hid (HG0.out.trans g1)
    have HZ1 := Lib.hid (HZ0.out.grew g1)
    have HB1 := Lib.hid (HB0.out.grew g1)
    have HR1 := Lib.hid (HR0.out.grew g1)
    clear g1
    have z0 := HZ1.out.cell 0
    have z1 := HZ1.out.cell 1
    have z2 := HZ1.out.cell 2
    have f0 := HZ1.out.frozen 0
    have f1 := HZ1.out.frozen 1
    have f2 := HZ1.out.frozen 2
    have hzl := HZ1.out.lt
    go_wp2_with fail
    refine bodyPost_ret (by first | (simp [*, results, Tryz.results74, go_sem]; rfl) | simp [*, results, Tryz.results74, go_sem]) rfl ?_
    exact ⟨none, 0, [], rfl, TabAt.zero _, by have hg := HG1.out; (repeat' first | (with_reducible exact Grew.refl _) | (with_reducible assumption) | (with_reducible refine Grew.alloc ?_ _) | (with_reducible refine Grew.drew ?_) | (with_reducible refine Grew.drewN ?_ _) | (with_reducible refine Grew.setRow ?_ (by first | (simp; done) | (simp; omega) | omega) _) | (with_reducible refine Grew.setCell ?_ (by first | (simp; done) | (simp; omega) | omega) _) | ((with_reducible apply Grew.trans); rotate_left; (with_reducible assumption)) | ((with_reducible apply Grew.turn); rotate_left; (with_reducible assumption); (focus (intro i hi; first | omega | (simp at hi; omega)))) | fail)⟩
  · rw [hx] at hr
    injection hr with e1 e2
    subst e1; subst e2
    have HX := Lib.hid (show findE T id unit = (-1, 6) from by unfold findE; rw [if_pos hv, hi, if_neg (by omega)])
    clear hv hx hi
    go_enter Tryz.func74, Tryz.ntmps74
    go_wp2_with fail
    refine (HFI.out _ HG0.out _ _ HX.out).mono ?_
    rintro e w1 ⟨rfl, g1⟩
    have HG1 := Lib.hid (HG0.out.trans g1)
    have HZ1 := Lib.hid (HZ0.out.grew g1)
    have HB1 := Lib.hid (HB0.out.grew g1)
    have HR1 := Lib.hid (HR0.out.grew g1)
    clear g1
    have z0 := HZ1.out.cell 0
    have z1 := HZ1.out.cell 1
    have z2 := HZ1.out.cell 2
    have f0 := HZ1.out.frozen 0
    have f1 := HZ1.out.frozen 1
    have f2 := HZ1.out.frozen 2
    have hzl := HZ1.out.lt
    go_wp2_with fail
    refine bodyPost_ret (by first | (simp [*, results, Tryz.results74, go_sem]; rfl) | simp [*, results, Tryz.results74, go_sem]) rfl ?_
    exact ⟨none, 0, [], rfl, TabAt.zero _, by have hg := HG1.out; (repeat' first | (with_reducible exact Grew.refl _) | (with_reducible assumption) | (with_reducible refine Grew.alloc ?_ _) | (with_reducible refine Grew.drew ?_) | (with_reducible refine Grew.drewN ?_ _) | (with_reducible refine Grew.setRow ?_ (by first | (simp; done) | (simp; omega) | omega) _) | (with_reducible refine Grew.setCell ?_ (by first | (simp; done) | (simp; omega) | omega) _) | ((with_reducible apply Grew.trans); rotate_left; (with_reducible assumption)) | ((with_reducible apply Grew.turn); rotate_left; (with_reducible assumption); (focus (intro i hi; first | omega | (simp at hi; omega)))) | fail)⟩
  have HX := Lib.hid (show findE T id unit = ((k : Int), 0) from by unfold findE; rw [if_pos hv, hi, if_pos (by omega)])
  have hhu := ((hitL_iff _ _ _).1 hhit).2.2
  obtain ⟨l, hlk⟩ : ∃ l, T.labels[k] = l := ⟨_, rfl⟩
  rw [hlk] at hx hhu
  have hle := HS.out.ext T.labels[k] (List.getElem_mem hk)
  rw [hlk] at hle
  have HLK := Lib.hid hlk
  have HHU := Lib.hid hhu
  clear hv hi hhit hlk hhu
  rcases hx with ⟨h0, hx⟩ | ⟨h0, hx⟩
  rotate_left
  · exact absurd rfl h0
  rw [hx] at hr
  injection hr with e1 e2
  subst e2
  have HT' := Lib.hid (show { T with labels := T.labels.set k labZ } = T' from e1)
  clear hx h0 e1
  go_enter Tryz.func74, Tryz.ntmps74
  go_wp2_with fail
  refine (HFI.out _ HG0.out _ _ HX.out).mono ?_
  rintro e w1 ⟨rfl, g1⟩
  have HG1 := Lib.hid (HG0.out.trans g1)
  have HZ1 := Lib.hid (HZ0.out.grew g1)
  have HB1 := Lib.hid (HB0.out.grew g1)
  have HR1 := Lib.hid (HR0.out.grew g1)
  clear g1
  have b0 := HB1.out.cell 0
  have b1 := HB1.out.cell 1
  have b2 := HB1.out.cell 2
  have hbl1 := HB1.out.lt
  go_wp2_with fail
  refine (rput_tab _ c xs T _ (HTB.out.hold HG1.out) (by omega) k hk none 0 labZ (LabAt.zero _) T' HT'.out).mono ?_
  rintro e w9 ⟨A9, c9, ys, rfl, ht9, g9⟩
  have hz9 := HZ1.out.grew g9
  have z0 := hz9.cell 0
  have z1 := hz9.cell 1
  have z2 := hz9.cell 2
  have f0 := hz9.frozen 0
  have f1 := hz9.frozen 1
  have f2 := hz9.frozen 2
  have hzl := hz9.lt
  have HG9 := Lib.hid (HG1.out.trans g9)
  have HT9 := Lib.hid (fun w10 (ht : Turned (fun x => x = w.heap.size + 1 + 1) w9 w10) => ht9.apart hz9 ht)
  clear hz9 g9 ht9
  go_wp2_with fail
  refine bodyPost_ret (by first | (simp [*, results, Tryz.results74, go_sem]; rfl) | simp [*, results, Tryz.results74, go_sem]) rfl ?_
  exact ⟨A9, c9, ys, rfl, HT9.out _ (by (repeat' first | (with_reducible exact Turned.refl _ _) | (with_reducible assumption) | (with_reducible refine Turned.alloc ?_ _) | (with_reducible refine Turned.drew ?_) | (with_reducible refine Turned.drewN ?_ _) | (with_reducible refine Turned.setRow ?_ (by first | (simp; done) | (simp; omega) | omega) _) | (with_reducible refine Turned.setCell ?_ (by first | (simp; done) | (simp; omega) | omega) _) | ((with_reducible apply Turned.andGrew); rotate_left; (with_reducible assumption)) | ((with_reducible apply Turned.trans); rotate_left; (with_reducible assumption)) | fail)), by have hg := HG9.out; (repeat' first | (with_reducible exact Grew.refl _) | (with_reducible assumption) | (with_reducible refine Grew.alloc ?_ _) | (with_reducible refine Grew.drew ?_) | (with_reducible refine Grew.drewN ?_ _) | (with_reducible refine Grew.setRow ?_ (by first | (simp; done) | (simp; omega) | omega) _) | (with_reducible refine Grew.setCell ?_ (by first | (simp; done) | (simp; omega) | omega) _) | ((with_reducible apply Grew.trans); rotate_left; (with_reducible assumption)) | ((with_reducible apply Grew.turn); rotate_left; (with_reducible assumption); (focus (intro i hi; first | omega | (simp at hi; omega)))) | fail)⟩
set_option maxRecDepth 100000 in
set_option maxHeartbeats 8000000 in
theorem rnote_tab (h : TabAt w A c xs T) (hs : SmallT T) (note : ByteArray) (hns : note.size ≤ 9223372036854775807) (T' : Tab) (er : Int) (hr : chgT T id unit (chNote T note) = (T', er)) :
    Calls Tryz.prog 73 #[.agg #[.string T.name, .int .i64 T.tracks, .slice A T.labels.length c], .agg #[.int .i64 id, .int .i64 unit], .string note] w (TabR w T' er) := by
  have hg0 := ((((Grew.refl w).alloc (.cells #[.string T.name, .int .i64 T.tracks, .slice A T.labels.length c] 24)).alloc (.cells #[.int .i64 id, .int .i64 unit] 26))).alloc (.cells #[.string ⟨#[]⟩, .int .i64 0, .slice none 0 0] 24)
  have HB0 := Lib.hid (((Blk.new w 24 #[.string T.name, .int .i64 T.tracks, .slice A T.labels.length c] rfl).alloc (.cells #[.int .i64 id, .int .i64 unit] 26)).alloc (.cells #[.string ⟨#[]⟩, .int .i64 0, .slice none 0 0] 24))
  have HR0 := Lib.hid ((Blk.new (w.alloc (.cells #[.string T.name, .int .i64 T.tracks, .slice A T.labels.length c] 24)) 26 #[.int .i64 id, .int .i64 unit] (n := w.heap.size + 1) (by simp)).alloc (.cells #[.string ⟨#[]⟩, .int .i64 0, .slice none 0 0] 24))
  have HZ0 := Lib.hid (Blk.new ((w.alloc (.cells #[.string T.name, .int .i64 T.tracks, .slice A T.labels.length c] 24)).alloc (.cells #[.int .i64 id, .int .i64 unit] 26)) 24 #[.string ⟨#[]⟩, .int .i64 0, .slice none 0 0] (n := w.heap.size + 1 + 1) (by simp))
  have HFI := Lib.hid (fun w1 (hg : Grew w w1) i e he => rfd_any A c xs T id unit w1 (h.hold hg) hs i e he)
  have HFR := Lib.hid (fun w1 (hg : Grew w w1) kf hkf => rfree_tab A c xs T w1 (h.hold hg) hs _ rfl kf hkf)
  have HIX := Lib.hid (fun w1 (hg : Grew w w1) u ix hix => rindex_any A c xs T id u w1 (h.hold hg) hs _ rfl ix hix)
  have HTB := Lib.hid h
  have HS := Lib.hid hs
  have hlen := hs.len
  have hnm := h.name
  have ht0 := h.tr0
  have ht1 := h.tr1
  have HG0 := Lib.hid hg0
  clear h hs hg0
  rcases chgT_cases T id unit (chNote T note) with ⟨hv, hx⟩ | ⟨hv, hi, hx⟩ | ⟨hv, k, hk, hi, hhit, hx⟩
  · rw [hx] at hr
    injection hr with e1 e2
    subst e1; subst e2
    have HX := Lib.hid (show findE T id unit = (-1, 1) from by unfold findE; rw [if_neg (by rw [hv]; simp)])
    clear hv hx
    go_enter Tryz.func73, Tryz.ntmps73
    go_wp2_with fail
    refine (HFI.out _ HG0.out _ _ HX.out).mono ?_
    rintro e w1 ⟨rfl, g1⟩
    have HG1 := Lib.hid (HG0.out.trans g1)
    have HZ1 := Lib.hid (HZ0.out.grew g1)
    have HB1 := Lib.hid (HB0.out.grew g1)
    have HR1 := Lib.hid (HR0.out.grew g1)
    clear g1
    have z0 := HZ1.out.cell 0
    have z1 := HZ1.out.cell 1
    have z2 := HZ1.out.cell 2
    have f0 := HZ1.out.frozen 0
    have f1 := HZ1.out.frozen 1
    have f2 := HZ1.out.frozen 2
    have hzl := HZ1.out.lt
    go_wp2_with fail
    refine bodyPost_ret (by first | (simp [*, results, Tryz.results73, go_sem]; rfl) | simp [*, results, Tryz.results73, go_sem]) rfl ?_
    exact ⟨none, 0, [], rfl, TabAt.zero _, by have hg := HG1.out; (repeat' first | (with_reducible exact Grew.refl _) | (with_reducible assumption) | (with_reducible refine Grew.alloc ?_ _) | (with_reducible refine Grew.drew ?_) | (with_reducible refine Grew.drewN ?_ _) | (with_reducible refine Grew.setRow ?_ (by first | (simp; done) | (simp; omega) | omega) _) | (with_reducible refine Grew.setCell ?_ (by first | (simp; done) | (simp; omega) | omega) _) | ((with_reducible apply Grew.trans); rotate_left; (with_reducible assumption)) | ((with_reducible apply Grew.turn); rotate_left; (with_reducible assumption); (focus (intro i hi; first | omega | (simp at hi; omega)))) | fail)⟩
  · rw [hx] at hr
    injection hr with e1 e2
    subst e1; subst e2
    have HX := Lib.hid (show findE T id unit = (-1, 6) from by unfold findE; rw [if_pos hv, hi, if_neg (by omega)])
    clear hv hx hi
    go_enter Tryz.func73, Tryz.ntmps73
    go_wp2_with fail
    refine (HFI.out _ HG0.out _ _ HX.out).mono ?_
    rintro e w1 ⟨rfl, g1⟩
    have HG1 := Lib.hid (HG0.out.trans g1)
    have HZ1 := Lib.hid (HZ0.out.grew g1)
    have HB1 := Lib.hid (HB0.out.grew g1)
    have HR1 := Lib.hid (HR0.out.grew g1)
    clear g1
    have z0 := HZ1.out.cell 0
    have z1 := HZ1.out.cell 1
    have z2 := HZ1.out.cell 2
    have f0 := HZ1.out.frozen 0
    have f1 := HZ1.out.frozen 1
    have f2 := HZ1.out.frozen 2
    have hzl := HZ1.out.lt
    go_wp2_with fail
    refine bodyPost_ret (by first | (simp [*, results, Tryz.results73, go_sem]; rfl) | simp [*, results, Tryz.results73, go_sem]) rfl ?_
    exact ⟨none, 0, [], rfl, TabAt.zero _, by have hg := HG1.out; (repeat' first | (with_reducible exact Grew.refl _) | (with_reducible assumption) | (with_reducible refine Grew.alloc ?_ _) | (with_reducible refine Grew.drew ?_) | (with_reducible refine Grew.drewN ?_ _) | (with_reducible refine Grew.setRow ?_ (by first | (simp; done) | (simp; omega) | omega) _) | (with_reducible refine Grew.setCell ?_ (by first | (simp; done) | (simp; omega) | omega) _) | ((with_reducible apply Grew.trans); rotate_left; (with_reducible assumption)) | ((with_reducible apply Grew.turn); rotate_left; (with_reducible assumption); (focus (intro i hi; first | omega | (simp at hi; omega)))) | fail)⟩
  have HX := Lib.hid (show findE T id unit = ((k : Int), 0) from by unfold findE; rw [if_pos hv, hi, if_pos (by omega)])
  have hhu := ((hitL_iff _ _ _).1 hhit).2.2
  obtain ⟨l, hlk⟩ : ∃ l, T.labels[k] = l := ⟨_, rfl⟩
  rw [hlk] at hx hhu
  have hle := HS.out.ext T.labels[k] (List.getElem_mem hk)
  rw [hlk] at hle
  have HLK := Lib.hid hlk
  have HHU := Lib.hid hhu
  clear hv hi hhit hlk hhu
  by_cases hn : 400 < note.size
  · have hni : (note.size : Int) > 400 := by omega
    have hc : chNote T note k l = (T.labels, 1) := if_pos hn
    rw [hc] at hx
    rcases hx with ⟨h0, hx⟩ | ⟨h0, hx⟩
    · exact absurd h0 (show ¬ (1 : Int) = 0 by decide)
    rw [hx] at hr
    injection hr with e1 e2
    subst e1; subst e2
    clear hx h0 hc
    go_enter Tryz.func73, Tryz.ntmps73
    go_wp2_with fail
    refine (HFI.out _ HG0.out _ _ HX.out).mono ?_
    rintro e w1 ⟨rfl, g1⟩
    have HG1 := Lib.hid (HG0.out.trans g1)
    have HZ1 := Lib.hid (HZ0.out.grew g1)
    have HB1 := Lib.hid (HB0.out.grew g1)
    have HR1 := Lib.hid (HR0.out.grew g1)
    clear g1
    have z0 := HZ1.out.cell 0
    have z1 := HZ1.out.cell 1
    have z2 := HZ1.out.cell 2
    have f0 := HZ1.out.frozen 0
    have f1 := HZ1.out.frozen 1
    have f2 := HZ1.out.frozen 2
    have hzl := HZ1.out.lt
    go_wp2_with fail
    refine bodyPost_ret (by first | (simp [*, results, Tryz.results73, go_sem]; rfl) | simp [*, results, Tryz.results73, go_sem]) rfl ?_
    exact ⟨none, 0, [], rfl, TabAt.zero _, by have hg := HG1.out; (repeat' first | (with_reducible exact Grew.refl _) | (with_reducible assumption) | (with_reducible refine Grew.alloc ?_ _) | (with_reducible refine Grew.drew ?_) | (with_reducible refine Grew.drewN ?_ _) | (with_reducible refine Grew.setRow ?_ (by first | (simp; done) | (simp; omega) | omega) _) | (with_reducible refine Grew.setCell ?_ (by first | (simp; done) | (simp; omega) | omega) _) | ((with_reducible apply Grew.trans); rotate_left; (with_reducible assumption)) | ((with_reducible apply Grew.turn); rotate_left; (with_reducible assumption); (focus (intro i hi; first | omega | (simp at hi; omega)))) | fail)⟩
  have hni : ¬ (note.size : Int) > 400 := by omega
  have hc : chNote T note k l = (T.labels.set k { l with note := note }, 0) := if_neg hn
  rw [hc] at hx
  rcases hx with ⟨h0, hx⟩ | ⟨h0, hx⟩
  rotate_left
  · exact absurd rfl h0
  rw [hx] at hr
  injection hr with e1 e2
  subst e2
  have HT' := Lib.hid (show { T with labels := T.labels.set k { l with note := note } } = T' from e1)
  clear hx h0 e1 hc
  go_enter Tryz.func73, Tryz.ntmps73
  go_wp2_with fail
  refine (HFI.out _ HG0.out _ _ HX.out).mono ?_
  rintro e w1 ⟨rfl, g1⟩
  have HG1 := Lib.hid (HG0.out.trans g1)
  have HZ1 := Lib.hid (HZ0.out.grew g1)
  have HB1 := Lib.hid (HB0.out.grew g1)
  have HR1 := Lib.hid (HR0.out.grew g1)
  clear g1
  have hkn : (k : Int) < (T.labels.length : Int) := by omega
  have b2 := HB1.out.cell 2
  have hbl1 := HB1.out.lt
  obtain ⟨b, off, B, d, l', rfl, hbl, hxk, hv, hla, c0, c1, c2, c3, c4⟩ := (HTB.out.hold HG1.out).at_ hk
  rw [HLK.out] at hv
  subst hv
  have hgx : Grew w1 (w1.alloc (.cells #[.int .i64 l.id, .int .i64 l.unit, .string l.name, .string note, .slice B l.ext.length d] 31)) := (Grew.refl w1).alloc _
  have HLA := Lib.hid (hla.hold hgx)
  have HNL := Lib.hid (Blk.new w1 31 #[.int .i64 l.id, .int .i64 l.unit, .string l.name, .string note, .slice B l.ext.length d] rfl)
  have HG2 := Lib.hid (HG1.out.trans hgx)
  have HZ2 := Lib.hid (HZ1.out.grew hgx)
  have HB2 := Lib.hid (HB1.out.grew hgx)
  have HR2 := Lib.hid (HR1.out.grew hgx)
  have HW1 := Lib.hid HG1.out.size
  clear hla hgx hxk
  have HL2 := Lib.hid (show LabAt _ B d { l with note := note } from ⟨HLA.out.id0, HLA.out.id1, HLA.out.unit0, HLA.out.unit1, HLA.out.name, hns, HLA.out.runs, HLA.out.len, HLA.out.cap⟩)
  have b0 := HB1.out.cell 0
  have b1 := HB1.out.cell 1
  go_wp2_with fail
  refine (rput_tab _ c xs T _ (HTB.out.hold HG2.out) (by omega) k hk B d { l with note := note } HL2.out T' HT'.out).mono ?_
  rintro e w9 ⟨A9, c9, ys, rfl, ht9, g9⟩
  have hz9 := HZ2.out.grew g9
  have z0 := hz9.cell 0
  have z1 := hz9.cell 1
  have z2 := hz9.cell 2
  have f0 := hz9.frozen 0
  have f1 := hz9.frozen 1
  have f2 := hz9.frozen 2
  have hzl := hz9.lt
  have HG9 := Lib.hid (HG2.out.trans g9)
  have HT9 := Lib.hid (fun w10 (ht : Turned (fun x => x = w.heap.size + 1 + 1) w9 w10) => ht9.apart hz9 ht)
  clear hz9 g9 ht9
  go_wp2_with fail
  refine bodyPost_ret (by first | (simp [*, results, Tryz.results73, go_sem]; rfl) | simp [*, results, Tryz.results73, go_sem]) rfl ?_
  exact ⟨A9, c9, ys, rfl, HT9.out _ (by (repeat' first | (with_reducible exact Turned.refl _ _) | (with_reducible assumption) | (with_reducible refine Turned.alloc ?_ _) | (with_reducible refine Turned.drew ?_) | (with_reducible refine Turned.drewN ?_ _) | (with_reducible refine Turned.setRow ?_ (by first | (simp; done) | (simp; omega) | omega) _) | (with_reducible refine Turned.setCell ?_ (by first | (simp; done) | (simp; omega) | omega) _) | ((with_reducible apply Turned.andGrew); rotate_left; (with_reducible assumption)) | ((with_reducible apply Turned.trans); rotate_left; (with_reducible assumption)) | fail)), by have hg := HG9.out; (repeat' first | (with_reducible exact Grew.refl _) | (with_reducible assumption) | (with_reducible refine Grew.alloc ?_ _) | (with_reducible refine Grew.drew ?_) | (with_reducible refine Grew.drewN ?_ _) | (with_reducible refine Grew.setRow ?_ (by first | (simp; done) | (simp; omega) | omega) _) | (with_reducible refine Grew.setCell ?_ (by first | (simp; done) | (simp; omega) | omega) _) | ((with_reducible apply Grew.trans); rotate_left; (with_reducible assumption)) | ((with_reducible apply Grew.turn); rotate_left; (with_reducible assumption); (focus (intro i hi; first | omega | (simp at hi; omega)))) | fail)⟩
set_option maxRecDepth 100000 in
set_option maxHeartbeats 8000000 in
theorem rrelease_tab (h : TabAt w A c xs T) (hs : SmallT T) (n : Int) (n0 : -9223372036854775808 ≤ n) (n1 : n ≤ 9223372036854775807) (T' : Tab) (er : Int) (hr : chgT T id unit (chRel T n) = (T', er)) :
    Calls Tryz.prog 70 #[.agg #[.string T.name, .int .i64 T.tracks, .slice A T.labels.length c], .agg #[.int .i64 id, .int .i64 unit], .int .i64 n] w (TabR w T' er) := by
  have hg0 := ((((Grew.refl w).alloc (.cells #[.string T.name, .int .i64 T.tracks, .slice A T.labels.length c] 24)).alloc (.cells #[.int .i64 id, .int .i64 unit] 26))).alloc (.cells #[.string ⟨#[]⟩, .int .i64 0, .slice none 0 0] 24)
  have HB0 := Lib.hid (((Blk.new w 24 #[.string T.name, .int .i64 T.tracks, .slice A T.labels.length c] rfl).alloc (.cells #[.int .i64 id, .int .i64 unit] 26)).alloc (.cells #[.string ⟨#[]⟩, .int .i64 0, .slice none 0 0] 24))
  have HR0 := Lib.hid ((Blk.new (w.alloc (.cells #[.string T.name, .int .i64 T.tracks, .slice A T.labels.length c] 24)) 26 #[.int .i64 id, .int .i64 unit] (n := w.heap.size + 1) (by simp)).alloc (.cells #[.string ⟨#[]⟩, .int .i64 0, .slice none 0 0] 24))
  have HZ0 := Lib.hid (Blk.new ((w.alloc (.cells #[.string T.name, .int .i64 T.tracks, .slice A T.labels.length c] 24)).alloc (.cells #[.int .i64 id, .int .i64 unit] 26)) 24 #[.string ⟨#[]⟩, .int .i64 0, .slice none 0 0] (n := w.heap.size + 1 + 1) (by simp))
  have HFI := Lib.hid (fun w1 (hg : Grew w w1) i e he => rfd_any A c xs T id unit w1 (h.hold hg) hs i e he)
  have HFR := Lib.hid (fun w1 (hg : Grew w w1) kf hkf => rfree_tab A c xs T w1 (h.hold hg) hs _ rfl kf hkf)
  have HIX := Lib.hid (fun w1 (hg : Grew w w1) u ix hix => rindex_any A c xs T id u w1 (h.hold hg) hs _ rfl ix hix)
  have HTB := Lib.hid h
  have HS := Lib.hid hs
  have hlen := hs.len
  have hnm := h.name
  have ht0 := h.tr0
  have ht1 := h.tr1
  have HG0 := Lib.hid hg0
  clear h hs hg0
  rcases chgT_cases T id unit (chRel T n) with ⟨hv, hx⟩ | ⟨hv, hi, hx⟩ | ⟨hv, k, hk, hi, hhit, hx⟩
  · rw [hx] at hr
    injection hr with e1 e2
    subst e1; subst e2
    have HX := Lib.hid (show findE T id unit = (-1, 1) from by unfold findE; rw [if_neg (by rw [hv]; simp)])
    clear hv hx
    go_enter Tryz.func70, Tryz.ntmps70
    go_wp2_with fail
    refine (HFI.out _ HG0.out _ _ HX.out).mono ?_
    rintro e w1 ⟨rfl, g1⟩
    have HG1 := Lib.hid (HG0.out.trans g1)
    have HZ1 := Lib.hid (HZ0.out.grew g1)
    have HB1 := Lib.hid (HB0.out.grew g1)
    have HR1 := Lib.hid (HR0.out.grew g1)
    clear g1
    have z0 := HZ1.out.cell 0
    have z1 := HZ1.out.cell 1
    have z2 := HZ1.out.cell 2
    have f0 := HZ1.out.frozen 0
    have f1 := HZ1.out.frozen 1
    have f2 := HZ1.out.frozen 2
    have hzl := HZ1.out.lt
    go_wp2_with fail
    refine bodyPost_ret (by first | (simp [*, results, Tryz.results70, go_sem]; rfl) | simp [*, results, Tryz.results70, go_sem]) rfl ?_
    exact ⟨none, 0, [], rfl, TabAt.zero _, by have hg := HG1.out; (repeat' first | (with_reducible exact Grew.refl _) | (with_reducible assumption) | (with_reducible refine Grew.alloc ?_ _) | (with_reducible refine Grew.drew ?_) | (with_reducible refine Grew.drewN ?_ _) | (with_reducible refine Grew.setRow ?_ (by first | (simp; done) | (simp; omega) | omega) _) | (with_reducible refine Grew.setCell ?_ (by first | (simp; done) | (simp; omega) | omega) _) | ((with_reducible apply Grew.trans); rotate_left; (with_reducible assumption)) | ((with_reducible apply Grew.turn); rotate_left; (with_reducible assumption); (focus (intro i hi; first | omega | (simp at hi; omega)))) | fail)⟩
  · rw [hx] at hr
    injection hr with e1 e2
    subst e1; subst e2
    have HX := Lib.hid (show findE T id unit = (-1, 6) from by unfold findE; rw [if_pos hv, hi, if_neg (by omega)])
    clear hv hx hi
    go_enter Tryz.func70, Tryz.ntmps70
    go_wp2_with fail
    refine (HFI.out _ HG0.out _ _ HX.out).mono ?_
    rintro e w1 ⟨rfl, g1⟩
    have HG1 := Lib.hid (HG0.out.trans g1)
    have HZ1 := Lib.hid (HZ0.out.grew g1)
    have HB1 := Lib.hid (HB0.out.grew g1)
    have HR1 := Lib.hid (HR0.out.grew g1)
    clear g1
    have z0 := HZ1.out.cell 0
    have z1 := HZ1.out.cell 1
    have z2 := HZ1.out.cell 2
    have f0 := HZ1.out.frozen 0
    have f1 := HZ1.out.frozen 1
    have f2 := HZ1.out.frozen 2
    have hzl := HZ1.out.lt
    go_wp2_with fail
    refine bodyPost_ret (by first | (simp [*, results, Tryz.results70, go_sem]; rfl) | simp [*, results, Tryz.results70, go_sem]) rfl ?_
    exact ⟨none, 0, [], rfl, TabAt.zero _, by have hg := HG1.out; (repeat' first | (with_reducible exact Grew.refl _) | (with_reducible assumption) | (with_reducible refine Grew.alloc ?_ _) | (with_reducible refine Grew.drew ?_) | (with_reducible refine Grew.drewN ?_ _) | (with_reducible refine Grew.setRow ?_ (by first | (simp; done) | (simp; omega) | omega) _) | (with_reducible refine Grew.setCell ?_ (by first | (simp; done) | (simp; omega) | omega) _) | ((with_reducible apply Grew.trans); rotate_left; (with_reducible assumption)) | ((with_reducible apply Grew.turn); rotate_left; (with_reducible assumption); (focus (intro i hi; first | omega | (simp at hi; omega)))) | fail)⟩
  have HX := Lib.hid (show findE T id unit = ((k : Int), 0) from by unfold findE; rw [if_pos hv, hi, if_pos (by omega)])
  have hhu := ((hitL_iff _ _ _).1 hhit).2.2
  obtain ⟨l, hlk⟩ : ∃ l, T.labels[k] = l := ⟨_, rfl⟩
  rw [hlk] at hx hhu
  have hle := HS.out.ext T.labels[k] (List.getElem_mem hk)
  rw [hlk] at hle
  have HLK := Lib.hid hlk
  have HHU := Lib.hid hhu
  clear hv hi hhit hlk hhu
  obtain ⟨ke, hke⟩ : ∃ ke, relA l.ext n = ke := ⟨_, rfl⟩
  obtain ⟨er2, her⟩ : ∃ er2, relE l.ext n = er2 := ⟨_, rfl⟩
  have hc : chRel T n k l = (T.labels.set k { l with ext := ke }, er2) := by unfold chRel; rw [hke, her]
  rw [hc] at hx
  clear hc
  have HRL := Lib.hid (fun w2 B d (hr : RunsAt w2 w2.heap.size B l.ext) => rrelease_new (A := B) (c := d) (m := l.ext.length) (w := w2) rfl hle hr n n0 n1 ke er2 hke her)
  clear hke her
  have hne1 : ¬ w.heap.size = 0 ∨ True := .inr trivial
  clear hne1
  rcases hx with ⟨h0, hx⟩ | ⟨h0, hx⟩
  rotate_left
  · try simp only at h0 hx
    rw [hx] at hr
    injection hr with e1 e2
    subst e1; subst e2
    have hnz : (er2 != 0) = true := by rw [bne_iff_ne]; exact h0
    clear hx h0
    go_enter Tryz.func70, Tryz.ntmps70
    go_wp2_with fail
    refine (HFI.out _ HG0.out _ _ HX.out).mono ?_
    rintro e w1 ⟨rfl, g1⟩
    have HG1 := Lib.hid (HG0.out.trans g1)
    have HZ1 := Lib.hid (HZ0.out.grew g1)
    have HB1 := Lib.hid (HB0.out.grew g1)
    have HR1 := Lib.hid (HR0.out.grew g1)
    clear g1
    have hkn : (k : Int) < (T.labels.length : Int) := by omega
    have b2 := HB1.out.cell 2
    have hbl1 := HB1.out.lt
    obtain ⟨b, off, B, d, l', rfl, hbl, hxk, hv, hla, c0, c1, c2, c3, c4⟩ := (HTB.out.hold HG1.out).at_ hk
    rw [HLK.out] at hv
    subst hv
    have hgx : Grew w1 (w1.alloc (.cells #[.int .i64 l.id, .int .i64 l.unit, .string l.name, .string l.note, .slice B l.ext.length d] 31)) := (Grew.refl w1).alloc _
    have HLA := Lib.hid (hla.hold hgx)
    have HNL := Lib.hid (Blk.new w1 31 #[.int .i64 l.id, .int .i64 l.unit, .string l.name, .string l.note, .slice B l.ext.length d] rfl)
    have HG2 := Lib.hid (HG1.out.trans hgx)
    have HZ2 := Lib.hid (HZ1.out.grew hgx)
    have HB2 := Lib.hid (HB1.out.grew hgx)
    have HR2 := Lib.hid (HR1.out.grew hgx)
    have HW1 := Lib.hid HG1.out.size
    clear hla hgx hxk
    go_wp2_with fail
    refine (HRL.out _ B d HLA.out.runs).mono ?_
    rintro e w3 ⟨A6, c6, A7, n7, c7, rfl, hr6, g3⟩
    have HG3 := Lib.hid (HG2.out.trans g3)
    have HZ3 := Lib.hid (HZ2.out.grew g3)
    have hn3 := HNL.out.grew g3
    have q4 := hn3.cell 4
    have qf := hn3.frozen 4
    have hql := hn3.lt
    have hzn := HZ1.out.lt
    have HWW := Lib.hid HW1.out
    clear hr6 g3 hn3 c0 c1 c2 c3 c4 b2
    have z0 := HZ3.out.cell 0
    have z1 := HZ3.out.cell 1
    have z2 := HZ3.out.cell 2
    have f0 := HZ3.out.frozen 0
    have f1 := HZ3.out.frozen 1
    have f2 := HZ3.out.frozen 2
    have hzl := HZ3.out.lt
    go_wp2_with fail
    refine bodyPost_ret (by first | (simp [*, results, Tryz.results70, go_sem]; rfl) | simp [*, results, Tryz.results70, go_sem]) rfl ?_
    exact ⟨none, 0, [], rfl, TabAt.zero _, by have hg := HG3.out; (repeat' first | (with_reducible exact Grew.refl _) | (with_reducible assumption) | (with_reducible refine Grew.alloc ?_ _) | (with_reducible refine Grew.drew ?_) | (with_reducible refine Grew.drewN ?_ _) | (with_reducible refine Grew.setRow ?_ (by first | (simp; done) | (simp; omega) | omega) _) | (with_reducible refine Grew.setCell ?_ (by first | (simp; done) | (simp; omega) | omega) _) | ((with_reducible apply Grew.trans); rotate_left; (with_reducible assumption)) | ((with_reducible apply Grew.turn); rotate_left; (with_reducible assumption); (focus (intro i hi; first | omega | (simp at hi; omega)))) | fail)⟩
  · try simp only at h0 hx
    subst h0
    rw [hx] at hr
    injection hr with e1 e2
    subst e2
    have HT' := Lib.hid (show { T with labels := T.labels.set k { l with ext := ke } } = T' from e1)
    clear hx e1
    go_enter Tryz.func70, Tryz.ntmps70
    go_wp2_with fail
    refine (HFI.out _ HG0.out _ _ HX.out).mono ?_
    rintro e w1 ⟨rfl, g1⟩
    have HG1 := Lib.hid (HG0.out.trans g1)
    have HZ1 := Lib.hid (HZ0.out.grew g1)
    have HB1 := Lib.hid (HB0.out.grew g1)
    have HR1 := Lib.hid (HR0.out.grew g1)
    clear g1
    have hkn : (k : Int) < (T.labels.length : Int) := by omega
    have b2 := HB1.out.cell 2
    have hbl1 := HB1.out.lt
    obtain ⟨b, off, B, d, l', rfl, hbl, hxk, hv, hla, c0, c1, c2, c3, c4⟩ := (HTB.out.hold HG1.out).at_ hk
    rw [HLK.out] at hv
    subst hv
    have hgx : Grew w1 (w1.alloc (.cells #[.int .i64 l.id, .int .i64 l.unit, .string l.name, .string l.note, .slice B l.ext.length d] 31)) := (Grew.refl w1).alloc _
    have HLA := Lib.hid (hla.hold hgx)
    have HNL := Lib.hid (Blk.new w1 31 #[.int .i64 l.id, .int .i64 l.unit, .string l.name, .string l.note, .slice B l.ext.length d] rfl)
    have HG2 := Lib.hid (HG1.out.trans hgx)
    have HZ2 := Lib.hid (HZ1.out.grew hgx)
    have HB2 := Lib.hid (HB1.out.grew hgx)
    have HR2 := Lib.hid (HR1.out.grew hgx)
    have HW1 := Lib.hid HG1.out.size
    clear hla hgx hxk
    go_wp2_with fail
    refine (HRL.out _ B d HLA.out.runs).mono ?_
    rintro e w3 ⟨A6, c6, A7, n7, c7, rfl, hr6, g3⟩
    have HG3 := Lib.hid (HG2.out.trans g3)
    have HZ3 := Lib.hid (HZ2.out.grew g3)
    have HB3 := Lib.hid (HB2.out.grew g3)
    have HN3 := Lib.hid (HNL.out.grew g3)
    have HN6 := Lib.hid (show NewRuns (w1.alloc (.cells #[.int .i64 l.id, .int .i64 l.unit, .string l.name, .string l.note, .slice B l.ext.length d] 31)) w3 A6 c6 ke from hr6)
    have hne1 : ¬ w.heap.size = w1.heap.size := by have := HB1.out.lt; omega
    have hne2 : ¬ w.heap.size + 1 + 1 = w1.heap.size := by have := HZ1.out.lt; omega
    clear hr6 g3 c0 c1 c2 c3 c4 b2
    have gs3 : Grew w (w3.setCell ⟨w1.heap.size, 4, none⟩ (.slice A6 ke.length c6)) := HG3.out.setCell (p := ⟨w1.heap.size, 4, none⟩) HW1.out _
    have tu3 := set_turned w3 w1.heap.size 4 (.slice A6 ke.length c6)
    have hb3' := HB3.out.far (p := ⟨w1.heap.size, 4, none⟩) hne1 (.slice A6 ke.length c6)
    have hz3' := HZ3.out.far (p := ⟨w1.heap.size, 4, none⟩) hne2 (.slice A6 ke.length c6)
    have hn3' := HN3.out.set_ 4 (.slice A6 ke.length c6)
    have hr6' := runs_turned HN6.out.1 tu3 (fun _ b2 o2 e e2 => by have := HN6.out.2.2.2 b2 o2 e; simp at this; omega)
    have HG4 := Lib.hid gs3
    have HB4 := Lib.hid hb3'
    have HZ4 := Lib.hid hz3'
    have HL4 := Lib.hid (show LabAt (w3.setCell ⟨w1.heap.size, 4, none⟩ (.slice A6 ke.length c6)) A6 c6 { l with ext := ke } from ⟨HLA.out.id0, HLA.out.id1, HLA.out.unit0, HLA.out.unit1, HLA.out.name, HLA.out.note, hr6', HN6.out.2.1, HN6.out.2.2.1⟩)
    clear gs3 tu3 hb3' hz3' hn3' hr6'
    have b0 := HB3.out.cell 0
    have b1 := HB3.out.cell 1
    have b2 := HB3.out.cell 2
    have hbl3 := HB3.out.lt
    have q0 := HN3.out.cell 0
    have q1 := HN3.out.cell 1
    have q2 := HN3.out.cell 2
    have q3 := HN3.out.cell 3
    have q4 := HN3.out.cell 4
    have qf := HN3.out.frozen 4
    have hql := HN3.out.lt
    go_wp2_with fail
    refine (rput_tab _ c xs T _ (HTB.out.hold HG4.out) (by omega) k hk A6 c6 { l with ext := ke } HL4.out T' HT'.out).mono ?_
    rintro e w9 ⟨A9, c9, ys, rfl, ht9, g9⟩
    have hz9 := HZ4.out.grew g9
    have z0 := hz9.cell 0
    have z1 := hz9.cell 1
    have z2 := hz9.cell 2
    have f0 := hz9.frozen 0
    have f1 := hz9.frozen 1
    have f2 := hz9.frozen 2
    have hzl := hz9.lt
    have HG9 := Lib.hid (HG4.out.trans g9)
    have HT9 := Lib.hid (fun w10 (ht : Turned (fun x => x = w.heap.size + 1 + 1) w9 w10) => ht9.apart hz9 ht)
    clear hz9 g9 ht9
    go_wp2_with fail
    refine bodyPost_ret (by first | (simp [*, results, Tryz.results70, go_sem]; rfl) | simp [*, results, Tryz.results70, go_sem]) rfl ?_
    exact ⟨A9, c9, ys, rfl, HT9.out _ (by (repeat' first | (with_reducible exact Turned.refl _ _) | (with_reducible assumption) | (with_reducible refine Turned.alloc ?_ _) | (with_reducible refine Turned.drew ?_) | (with_reducible refine Turned.drewN ?_ _) | (with_reducible refine Turned.setRow ?_ (by first | (simp; done) | (simp; omega) | omega) _) | (with_reducible refine Turned.setCell ?_ (by first | (simp; done) | (simp; omega) | omega) _) | ((with_reducible apply Turned.andGrew); rotate_left; (with_reducible assumption)) | ((with_reducible apply Turned.trans); rotate_left; (with_reducible assumption)) | fail)), by have hg := HG9.out; (repeat' first | (with_reducible exact Grew.refl _) | (with_reducible assumption) | (with_reducible refine Grew.alloc ?_ _) | (with_reducible refine Grew.drew ?_) | (with_reducible refine Grew.drewN ?_ _) | (with_reducible refine Grew.setRow ?_ (by first | (simp; done) | (simp; omega) | omega) _) | (with_reducible refine Grew.setCell ?_ (by first | (simp; done) | (simp; omega) | omega) _) | ((with_reducible apply Grew.trans); rotate_left; (with_reducible assumption)) | ((with_reducible apply Grew.turn); rotate_left; (with_reducible assumption); (focus (intro i hi; first | omega | (simp at hi; omega)))) | fail)⟩
set_option maxRecDepth 100000 in
set_option maxHeartbeats 8000000 in
theorem rextend_tab (h : TabAt w A c xs T) (hs : SmallT T) (n : Int) (n0 : -9223372036854775808 ≤ n) (n1 : n ≤ 9223372036854775807) (T' : Tab) (er : Int) (hr : chgT T id unit (chExt T n) = (T', er)) :
    Calls Tryz.prog 69 #[.agg #[.string T.name, .int .i64 T.tracks, .slice A T.labels.length c], .agg #[.int .i64 id, .int .i64 unit], .int .i64 n] w (TabR w T' er) := by
  have hg0 := ((((Grew.refl w).alloc (.cells #[.string T.name, .int .i64 T.tracks, .slice A T.labels.length c] 24)).alloc (.cells #[.int .i64 id, .int .i64 unit] 26))).alloc (.cells #[.string ⟨#[]⟩, .int .i64 0, .slice none 0 0] 24)
  have HB0 := Lib.hid (((Blk.new w 24 #[.string T.name, .int .i64 T.tracks, .slice A T.labels.length c] rfl).alloc (.cells #[.int .i64 id, .int .i64 unit] 26)).alloc (.cells #[.string ⟨#[]⟩, .int .i64 0, .slice none 0 0] 24))
  have HR0 := Lib.hid ((Blk.new (w.alloc (.cells #[.string T.name, .int .i64 T.tracks, .slice A T.labels.length c] 24)) 26 #[.int .i64 id, .int .i64 unit] (n := w.heap.size + 1) (by simp)).alloc (.cells #[.string ⟨#[]⟩, .int .i64 0, .slice none 0 0] 24))
  have HZ0 := Lib.hid (Blk.new ((w.alloc (.cells #[.string T.name, .int .i64 T.tracks, .slice A T.labels.length c] 24)).alloc (.cells #[.int .i64 id, .int .i64 unit] 26)) 24 #[.string ⟨#[]⟩, .int .i64 0, .slice none 0 0] (n := w.heap.size + 1 + 1) (by simp))
  have HFI := Lib.hid (fun w1 (hg : Grew w w1) i e he => rfd_any A c xs T id unit w1 (h.hold hg) hs i e he)
  have HFR := Lib.hid (fun w1 (hg : Grew w w1) kf hkf => rfree_tab A c xs T w1 (h.hold hg) hs _ rfl kf hkf)
  have HIX := Lib.hid (fun w1 (hg : Grew w w1) u ix hix => rindex_any A c xs T id u w1 (h.hold hg) hs _ rfl ix hix)
  have HTB := Lib.hid h
  have HS := Lib.hid hs
  have hlen := hs.len
  have hnm := h.name
  have ht0 := h.tr0
  have ht1 := h.tr1
  have HG0 := Lib.hid hg0
  clear h hs hg0
  rcases chgT_cases T id unit (chExt T n) with ⟨hv, hx⟩ | ⟨hv, hi, hx⟩ | ⟨hv, k, hk, hi, hhit, hx⟩
  · rw [hx] at hr
    injection hr with e1 e2
    subst e1; subst e2
    have HX := Lib.hid (show findE T id unit = (-1, 1) from by unfold findE; rw [if_neg (by rw [hv]; simp)])
    clear hv hx
    go_enter Tryz.func69, Tryz.ntmps69
    go_wp2_with fail
    refine (HFI.out _ HG0.out _ _ HX.out).mono ?_
    rintro e w1 ⟨rfl, g1⟩
    have HG1 := Lib.hid (HG0.out.trans g1)
    have HZ1 := Lib.hid (HZ0.out.grew g1)
    have HB1 := Lib.hid (HB0.out.grew g1)
    have HR1 := Lib.hid (HR0.out.grew g1)
    clear g1
    have z0 := HZ1.out.cell 0
    have z1 := HZ1.out.cell 1
    have z2 := HZ1.out.cell 2
    have f0 := HZ1.out.frozen 0
    have f1 := HZ1.out.frozen 1
    have f2 := HZ1.out.frozen 2
    have hzl := HZ1.out.lt
    go_wp2_with fail
    refine bodyPost_ret (by first | (simp [*, results, Tryz.results69, go_sem]; rfl) | simp [*, results, Tryz.results69, go_sem]) rfl ?_
    exact ⟨none, 0, [], rfl, TabAt.zero _, by have hg := HG1.out; (repeat' first | (with_reducible exact Grew.refl _) | (with_reducible assumption) | (with_reducible refine Grew.alloc ?_ _) | (with_reducible refine Grew.drew ?_) | (with_reducible refine Grew.drewN ?_ _) | (with_reducible refine Grew.setRow ?_ (by first | (simp; done) | (simp; omega) | omega) _) | (with_reducible refine Grew.setCell ?_ (by first | (simp; done) | (simp; omega) | omega) _) | ((with_reducible apply Grew.trans); rotate_left; (with_reducible assumption)) | ((with_reducible apply Grew.turn); rotate_left; (with_reducible assumption); (focus (intro i hi; first | omega | (simp at hi; omega)))) | fail)⟩
  · rw [hx] at hr
    injection hr with e1 e2
    subst e1; subst e2
    have HX := Lib.hid (show findE T id unit = (-1, 6) from by unfold findE; rw [if_pos hv, hi, if_neg (by omega)])
    clear hv hx hi
    go_enter Tryz.func69, Tryz.ntmps69
    go_wp2_with fail
    refine (HFI.out _ HG0.out _ _ HX.out).mono ?_
    rintro e w1 ⟨rfl, g1⟩
    have HG1 := Lib.hid (HG0.out.trans g1)
    have HZ1 := Lib.hid (HZ0.out.grew g1)
    have HB1 := Lib.hid (HB0.out.grew g1)
    have HR1 := Lib.hid (HR0.out.grew g1)
    clear g1
    have z0 := HZ1.out.cell 0
    have z1 := HZ1.out.cell 1
    have z2 := HZ1.out.cell 2
    have f0 := HZ1.out.frozen 0
    have f1 := HZ1.out.frozen 1
    have f2 := HZ1.out.frozen 2
    have hzl := HZ1.out.lt
    go_wp2_with fail
    refine bodyPost_ret (by first | (simp [*, results, Tryz.results69, go_sem]; rfl) | simp [*, results, Tryz.results69, go_sem]) rfl ?_
    exact ⟨none, 0, [], rfl, TabAt.zero _, by have hg := HG1.out; (repeat' first | (with_reducible exact Grew.refl _) | (with_reducible assumption) | (with_reducible refine Grew.alloc ?_ _) | (with_reducible refine Grew.drew ?_) | (with_reducible refine Grew.drewN ?_ _) | (with_reducible refine Grew.setRow ?_ (by first | (simp; done) | (simp; omega) | omega) _) | (with_reducible refine Grew.setCell ?_ (by first | (simp; done) | (simp; omega) | omega) _) | ((with_reducible apply Grew.trans); rotate_left; (with_reducible assumption)) | ((with_reducible apply Grew.turn); rotate_left; (with_reducible assumption); (focus (intro i hi; first | omega | (simp at hi; omega)))) | fail)⟩
  have HX := Lib.hid (show findE T id unit = ((k : Int), 0) from by unfold findE; rw [if_pos hv, hi, if_pos (by omega)])
  have hhu := ((hitL_iff _ _ _).1 hhit).2.2
  obtain ⟨l, hlk⟩ : ∃ l, T.labels[k] = l := ⟨_, rfl⟩
  rw [hlk] at hx hhu
  have hle := HS.out.ext T.labels[k] (List.getElem_mem hk)
  rw [hlk] at hle
  have HLK := Lib.hid hlk
  have HHU := Lib.hid hhu
  clear hv hi hhit hlk hhu
  obtain ⟨kf, hkf⟩ : ∃ kf, freeT T = kf := ⟨_, rfl⟩
  have hkl : kf.length ≤ 128 := by rw [← hkf]; exact freeT_len T
  obtain ⟨ke, hke⟩ : ∃ ke, ints (extS l.ext kf n).1 = ke := ⟨_, rfl⟩
  obtain ⟨er2, her⟩ : ∃ er2, (extS l.ext kf n).2 = er2 := ⟨_, rfl⟩
  have hc : chExt T n k l = (T.labels.set k { l with ext := ke }, er2) := by unfold chExt; rw [hkf, hke, her]
  rw [hc] at hx
  have HKF := Lib.hid hkf
  have HKE := Lib.hid hke
  clear hc hkf hke
  rcases hx with ⟨h0, hx⟩ | ⟨h0, hx⟩
  rotate_left
  · try simp only at h0 hx
    rw [hx] at hr
    injection hr with e1 e2
    subst e1; subst e2
    have HER := Lib.hid her
    have hnz : (er2 != 0) = true := by rw [bne_iff_ne]; exact h0
    clear hx h0 her
    go_enter Tryz.func69, Tryz.ntmps69
    go_wp2_with fail
    refine (HFI.out _ HG0.out _ _ HX.out).mono ?_
    rintro e w1 ⟨rfl, g1⟩
    have HG1 := Lib.hid (HG0.out.trans g1)
    have HZ1 := Lib.hid (HZ0.out.grew g1)
    have HB1 := Lib.hid (HB0.out.grew g1)
    have HR1 := Lib.hid (HR0.out.grew g1)
    clear g1
    have hkn : (k : Int) < (T.labels.length : Int) := by omega
    have b2 := HB1.out.cell 2
    have hbl1 := HB1.out.lt
    obtain ⟨b, off, B, d, l', rfl, hbl, hxk, hv, hla, c0, c1, c2, c3, c4⟩ := (HTB.out.hold HG1.out).at_ hk
    rw [HLK.out] at hv
    subst hv
    have hgx : Grew w1 (w1.alloc (.cells #[.int .i64 l.id, .int .i64 l.unit, .string l.name, .string l.note, .slice B l.ext.length d] 31)) := (Grew.refl w1).alloc _
    have HLA := Lib.hid (hla.hold hgx)
    have HNL := Lib.hid (Blk.new w1 31 #[.int .i64 l.id, .int .i64 l.unit, .string l.name, .string l.note, .slice B l.ext.length d] rfl)
    have HG2 := Lib.hid (HG1.out.trans hgx)
    have HZ2 := Lib.hid (HZ1.out.grew hgx)
    have HB2 := Lib.hid (HB1.out.grew hgx)
    have HR2 := Lib.hid (HR1.out.grew hgx)
    have HW1 := Lib.hid HG1.out.size
    clear hla hgx hxk
    have HSG := Lib.hid (show ∀ w8 w9 : World, Grew w8 w9 → w1.heap.size < w8.heap.size → w.heap.size < w8.heap.size → (fun w' : World => w'.cell? ⟨w1.heap.size, 4, none⟩ = some (.slice B l.ext.length d) ∧ w'.cell? ⟨w.heap.size, 0, none⟩ = some (.string T.name) ∧ w'.cell? ⟨w.heap.size, 1, none⟩ = some (.int .i64 T.tracks) ∧ w'.cell? ⟨w.heap.size, 2, none⟩ = some (.slice (some ⟨b, off, none⟩) T.labels.length c)) w8 → (fun w' : World => w'.cell? ⟨w1.heap.size, 4, none⟩ = some (.slice B l.ext.length d) ∧ w'.cell? ⟨w.heap.size, 0, none⟩ = some (.string T.name) ∧ w'.cell? ⟨w.heap.size, 1, none⟩ = some (.int .i64 T.tracks) ∧ w'.cell? ⟨w.heap.size, 2, none⟩ = some (.slice (some ⟨b, off, none⟩) T.labels.length c)) w9 from fun w8 w9 h9 z1 z2 h8 => by
      simp only [h9.cellEq _ _ z1, h9.cellEq _ _ z2]
      exact h8)
    have hS : (fun w' : World => w'.cell? ⟨w1.heap.size, 4, none⟩ = some (.slice B l.ext.length d) ∧ w'.cell? ⟨w.heap.size, 0, none⟩ = some (.string T.name) ∧ w'.cell? ⟨w.heap.size, 1, none⟩ = some (.int .i64 T.tracks) ∧ w'.cell? ⟨w.heap.size, 2, none⟩ = some (.slice (some ⟨b, off, none⟩) T.labels.length c)) (w1.alloc (.cells #[.int .i64 l.id, .int .i64 l.unit, .string l.name, .string l.note, .slice B l.ext.length d] 31)).drew := ⟨HNL.out.drew.cell 4, HB2.out.drew.cell 0, HB2.out.drew.cell 1, HB2.out.drew.cell 2⟩
    have hq1 := HNL.out.drew.lt
    have hq2 := HB2.out.drew.lt
    go_wp2_with fail
    refine wp_region_R [10] (fun w' : World => w'.cell? ⟨w1.heap.size, 4, none⟩ = some (.slice B l.ext.length d) ∧ w'.cell? ⟨w.heap.size, 0, none⟩ = some (.string T.name) ∧ w'.cell? ⟨w.heap.size, 1, none⟩ = some (.int .i64 T.tracks) ∧ w'.cell? ⟨w.heap.size, 2, none⟩ = some (.slice (some ⟨b, off, none⟩) T.labels.length c)) (by kernel_rfl) ?_
    refine wpAnyR_takeQ (i := 0) (v := ?_) (some 27) rfl rfl (by kernel_rfl) (by kernel_rfl) (by kernel_rfl) (by kernel_rfl) (fun _ _ _ h => h) (Or.inl ⟨by rfl, ?_⟩) ?_
    rotate_left
    focus (intro wS hSw; (try dsimp only at hSw); go_simp; (try with_reducible rfl); (try (first | (rw [if_pos (by omega)]; (try go_simp); (try with_reducible rfl)) | (rw [if_neg (by omega)]; (try go_simp); (try with_reducible rfl)))))
    try simp only [Act.put, zA, zB, zC]
    refine wpAnyR_take (i := 1) (v := ?_) [5, 6, 7, 8, 9, 10, 11] (some 28) rfl rfl (by kernel_rfl) (by kernel_rfl) (by kernel_rfl) (by kernel_rfl) (by kernel_rfl) (by kernel_rfl) (by kernel_rfl) (fun _ _ _ h => h) (Or.inl ⟨by rfl, ?_⟩) hS ?_
    rotate_left
    focus (intro wS hSw; (try dsimp only at hSw); go_simp; (try with_reducible rfl); (try (first | (rw [if_pos (by omega)]; (try go_simp); (try with_reducible rfl)) | (rw [if_neg (by omega)]; (try go_simp); (try with_reducible rfl)))))
    try simp only [Act.put, zA, zB, zC]
    refine wpAnyR_take (i := 2) (v := ?_) [3, 5, 6, 7, 8, 9, 10, 11] (some 29) rfl rfl (by kernel_rfl) (by kernel_rfl) (by kernel_rfl) (by kernel_rfl) (by kernel_rfl) (by kernel_rfl) (by kernel_rfl) (fun _ _ _ h => h) (Or.inl ⟨by rfl, ?_⟩) hS ?_
    rotate_left
    focus (intro wS hSw; (try dsimp only at hSw); go_simp; (try with_reducible rfl); (try (first | (rw [if_pos (by omega)]; (try go_simp); (try with_reducible rfl)) | (rw [if_neg (by omega)]; (try go_simp); (try with_reducible rfl)))))
    try simp only [Act.put, zA, zB, zC]
    refine wpAnyR_takeQ (i := 4) (v := ?_) (some 31) rfl rfl (by kernel_rfl) (by kernel_rfl) (by kernel_rfl) (by kernel_rfl) (fun _ _ _ h => h) (Or.inl ⟨by rfl, ?_⟩) ?_
    rotate_left
    focus (intro wS hSw; (try dsimp only at hSw); go_simp; (try with_reducible rfl); (try (first | (rw [if_pos (by omega)]; (try go_simp); (try with_reducible rfl)) | (rw [if_neg (by omega)]; (try go_simp); (try with_reducible rfl)))))
    try simp only [Act.put, zA, zB, zC]
    refine wpAnyR_n1 (i := 3) rfl (by kernel_rfl) ?_
    intro K' hK
    rw [if_pos (by rfl)]
    simp only [List.getElem_toArray, List.getElem_cons_succ, List.getElem_cons_zero]
    go_wp2_with fail
    refine (HFR.out _ HG2.out.drew kf HKF.out).mono ?_
    rintro e w4 ⟨A5, c5, rfl, hr5, g4⟩
    have hS4 := HSG.out _ _ g4 hq1 hq2 hS
    have HEX := Lib.hid (rextend_new (A := B) (c := d) (m := l.ext.length) (A2 := A5) (c2 := c5) (w := w4) rfl rfl hle (by omega) ((HLA.out.hold ((Grew.refl _).drew.trans g4)).runs) hr5 n n0 n1 ke er2 HKE.out HER.out)
    have hq3 := Nat.lt_of_lt_of_le hq1 g4.size
    have hq4 := Nat.lt_of_lt_of_le hq2 g4.size
    clear hr5
    go_wp2_with fail
    refine hK.out _ _ (.inr (fun _ => hS4)) ?_
    clear hK
    refine wpAnyR_n1 (i := 5) rfl (by kernel_rfl) ?_
    intro K' hK
    rw [if_pos (by rfl)]
    simp only [List.getElem_toArray, List.getElem_cons_succ, List.getElem_cons_zero]
    go_wp2_with fail
    refine HEX.out.mono ?_
    rintro e w3 ⟨A6, c6, rfl, hr6, g3⟩
    have g43 : Grew (w1.alloc (.cells #[.int .i64 l.id, .int .i64 l.unit, .string l.name, .string l.note, .slice B l.ext.length d] 31)) w3 := ((Grew.refl _).drew.trans g4).trans g3
    have HG3 := Lib.hid (HG2.out.trans g43)
    have HZ3 := Lib.hid (HZ2.out.grew g43)
    have HB3 := Lib.hid (HB2.out.grew g43)
    have HN3 := Lib.hid (HNL.out.grew g43)
    have HN6 := Lib.hid (show NewRuns (w1.alloc (.cells #[.int .i64 l.id, .int .i64 l.unit, .string l.name, .string l.note, .slice B l.ext.length d] 31)) w3 A6 c6 ke from ⟨hr6.1, hr6.2.1, hr6.2.2.1, fun b3 o3 e => Nat.le_trans ((Grew.refl (w1.alloc (.cells #[.int .i64 l.id, .int .i64 l.unit, .string l.name, .string l.note, .slice B l.ext.length d] 31))).drew.trans g4).size (hr6.2.2.2 b3 o3 e)⟩)
    have hS3 := HSG.out _ _ g3 hq3 hq4 hS4
    have hne1 : ¬ w.heap.size = w1.heap.size := by have := HB1.out.lt; omega
    have hne2 : ¬ w.heap.size + 1 + 1 = w1.heap.size := by have := HZ1.out.lt; omega
    clear hr6
    go_wp2_with fail
    refine hK.out _ _ (.inr (fun _ => hS3)) ?_
    clear hK
    refine wpAnyR_takeQ (i := 6) (v := ?_) (some 26) rfl rfl (by kernel_rfl) (by kernel_rfl) (by kernel_rfl) (by kernel_rfl) (fun _ _ _ h => h) (Or.inl ⟨by rfl, ?_⟩) ?_
    rotate_left
    focus (intro wS hSw; (try dsimp only at hSw); go_simp; (try with_reducible rfl); (try (first | (rw [if_pos (by omega)]; (try go_simp); (try with_reducible rfl)) | (rw [if_neg (by omega)]; (try go_simp); (try with_reducible rfl)))))
    try simp only [Act.put, zA, zB, zC]
    refine wpAnyR_takeQ (i := 7) (v := ?_) (some 33) rfl rfl (by kernel_rfl) (by kernel_rfl) (by kernel_rfl) (by kernel_rfl) (fun _ _ _ h => h) (Or.inl ⟨by rfl, ?_⟩) ?_
    rotate_left
    focus (intro wS hSw; (try dsimp only at hSw); go_simp; (try with_reducible rfl); (try (first | (rw [if_pos (by omega)]; (try go_simp); (try with_reducible rfl)) | (rw [if_neg (by omega)]; (try go_simp); (try with_reducible rfl)))))
    try simp only [Act.put, zA, zB, zC]
    refine wpAnyR_takeQ (i := 8) (v := ?_) (some 34) rfl rfl (by kernel_rfl) (by kernel_rfl) (by kernel_rfl) (by kernel_rfl) (fun _ _ _ h => h) (Or.inl ⟨by rfl, ?_⟩) ?_
    rotate_left
    focus (intro wS hSw; (try dsimp only at hSw); go_simp; (try with_reducible rfl); (try (first | (rw [if_pos (by omega)]; (try go_simp); (try with_reducible rfl)) | (rw [if_neg (by omega)]; (try go_simp); (try with_reducible rfl)))))
    try simp only [Act.put, zA, zB, zC]
    refine wpAnyR_takeQ (i := 9) (v := ?_) (some 35) rfl rfl (by kernel_rfl) (by kernel_rfl) (by kernel_rfl) (by kernel_rfl) (fun _ _ _ h => h) (Or.inl ⟨by rfl, ?_⟩) ?_
    rotate_left
    focus (intro wS hSw; (try dsimp only at hSw); go_simp; (try with_reducible rfl); (try (first | (rw [if_pos (by omega)]; (try go_simp); (try with_reducible rfl)) | (rw [if_neg (by omega)]; (try go_simp); (try with_reducible rfl)))))
    try simp only [Act.put, zA, zB, zC]
    have q4 := HN3.out.cell 4
    have qf := HN3.out.frozen 4
    have hql := HN3.out.lt
    refine wpAnyR_n1 (i := 10) rfl (by kernel_rfl) ?_
    intro K' hK
    rw [if_pos (by rfl)]
    simp only [List.getElem_toArray, List.getElem_cons_succ, List.getElem_cons_zero]
    go_wp2_with fail
    refine hK.out _ _ (.inl rfl) ?_
    clear hK
    refine wpAnyR_takeQ (i := 11) (v := ?_) (some 9) rfl rfl (by kernel_rfl) (by kernel_rfl) (by kernel_rfl) (by kernel_rfl) (fun _ _ _ h => h) (Or.inl ⟨by rfl, ?_⟩) ?_
    rotate_left
    focus (intro wS hSw; (try dsimp only at hSw); go_simp; (try with_reducible rfl); (try (first | (rw [if_pos (by omega)]; (try go_simp); (try with_reducible rfl)) | (rw [if_neg (by omega)]; (try go_simp); (try with_reducible rfl)))))
    try simp only [Act.put, zA, zB, zC]
    refine wpAnyR_done (by kernel_rfl) ?_ _
    clear hS hS4 hS3 hq1 hq2 hq3 hq4 g4 g3 g43 c0 c1 c2 c3 c4 b2 q4 qf hql HEX
    obtain ⟨W, hW⟩ : ∃ W, W = (w3.setCell ⟨w1.heap.size, 4, none⟩ (.slice A6 ke.length c6)) := ⟨_, rfl⟩
    rw [← hW]
    have HG4 := Lib.hid (show Grew w W from by rw [hW]; exact HG3.out.setCell (p := ⟨w1.heap.size, 4, none⟩) HW1.out _)
    have tu3 := set_turned w3 w1.heap.size 4 (.slice A6 ke.length c6)
    have HB4 := Lib.hid (show Blk W w.heap.size 24 #[.string T.name, .int .i64 T.tracks, .slice (some ⟨b, off, none⟩) T.labels.length c] from by rw [hW]; exact HB3.out.far (p := ⟨w1.heap.size, 4, none⟩) hne1 _)
    have HZ4 := Lib.hid (show Blk W (w.heap.size + 1 + 1) 24 #[.string ⟨#[]⟩, .int .i64 0, .slice none 0 0] from by rw [hW]; exact HZ3.out.far (p := ⟨w1.heap.size, 4, none⟩) hne2 _)
    have HN4 := Lib.hid (show Blk W w1.heap.size 31 #[.int .i64 l.id, .int .i64 l.unit, .string l.name, .string l.note, .slice A6 ke.length c6] from by rw [hW]; exact HN3.out.set_ 4 _)
    have HL4 := Lib.hid (show LabAt W A6 c6 { l with ext := ke } from ⟨HLA.out.id0, HLA.out.id1, HLA.out.unit0, HLA.out.unit1, HLA.out.name, HLA.out.note, by
      rw [hW]
      exact runs_turned HN6.out.1 tu3 (fun _ b3 o3 e e2 => by have := HN6.out.2.2.2 b3 o3 e; simp at this; omega), HN6.out.2.1, HN6.out.2.2.1⟩)
    clear tu3 hW
    have z0 := HZ4.out.cell 0
    have z1 := HZ4.out.cell 1
    have z2 := HZ4.out.cell 2
    have f0 := HZ4.out.frozen 0
    have f1 := HZ4.out.frozen 1
    have f2 := HZ4.out.frozen 2
    have hzl := HZ4.out.lt
    go_wp2_with fail
    refine bodyPost_ret (by first | (simp [*, results, Tryz.results69, go_sem]; rfl) | simp [*, results, Tryz.results69, go_sem]) rfl ?_
    exact ⟨none, 0, [], rfl, TabAt.zero _, by have hg := HG4.out; (repeat' first | (with_reducible exact Grew.refl _) | (with_reducible assumption) | (with_reducible refine Grew.alloc ?_ _) | (with_reducible refine Grew.drew ?_) | (with_reducible refine Grew.drewN ?_ _) | (with_reducible refine Grew.setRow ?_ (by first | (simp; done) | (simp; omega) | omega) _) | (with_reducible refine Grew.setCell ?_ (by first | (simp; done) | (simp; omega) | omega) _) | ((with_reducible apply Grew.trans); rotate_left; (with_reducible assumption)) | ((with_reducible apply Grew.turn); rotate_left; (with_reducible assumption); (focus (intro i hi; first | omega | (simp at hi; omega)))) | fail)⟩
  · try simp only at h0 hx
    rw [hx] at hr
    injection hr with e1 e2
    subst e2
    have HER := Lib.hid (her.trans h0)
    have HT' := Lib.hid (show { T with labels := T.labels.set k { l with ext := ke } } = T' from e1)
    clear hx e1 her h0
    go_enter Tryz.func69, Tryz.ntmps69
    go_wp2_with fail
    refine (HFI.out _ HG0.out _ _ HX.out).mono ?_
    rintro e w1 ⟨rfl, g1⟩
    have HG1 := Lib.hid (HG0.out.trans g1)
    have HZ1 := Lib.hid (HZ0.out.grew g1)
    have HB1 := Lib.hid (HB0.out.grew g1)
    have HR1 := Lib.hid (HR0.out.grew g1)
    clear g1
    have hkn : (k : Int) < (T.labels.length : Int) := by omega
    have b2 := HB1.out.cell 2
    have hbl1 := HB1.out.lt
    obtain ⟨b, off, B, d, l', rfl, hbl, hxk, hv, hla, c0, c1, c2, c3, c4⟩ := (HTB.out.hold HG1.out).at_ hk
    rw [HLK.out] at hv
    subst hv
    have hgx : Grew w1 (w1.alloc (.cells #[.int .i64 l.id, .int .i64 l.unit, .string l.name, .string l.note, .slice B l.ext.length d] 31)) := (Grew.refl w1).alloc _
    have HLA := Lib.hid (hla.hold hgx)
    have HNL := Lib.hid (Blk.new w1 31 #[.int .i64 l.id, .int .i64 l.unit, .string l.name, .string l.note, .slice B l.ext.length d] rfl)
    have HG2 := Lib.hid (HG1.out.trans hgx)
    have HZ2 := Lib.hid (HZ1.out.grew hgx)
    have HB2 := Lib.hid (HB1.out.grew hgx)
    have HR2 := Lib.hid (HR1.out.grew hgx)
    have HW1 := Lib.hid HG1.out.size
    clear hla hgx hxk
    have HSG := Lib.hid (show ∀ w8 w9 : World, Grew w8 w9 → w1.heap.size < w8.heap.size → w.heap.size < w8.heap.size → (fun w' : World => w'.cell? ⟨w1.heap.size, 4, none⟩ = some (.slice B l.ext.length d) ∧ w'.cell? ⟨w.heap.size, 0, none⟩ = some (.string T.name) ∧ w'.cell? ⟨w.heap.size, 1, none⟩ = some (.int .i64 T.tracks) ∧ w'.cell? ⟨w.heap.size, 2, none⟩ = some (.slice (some ⟨b, off, none⟩) T.labels.length c)) w8 → (fun w' : World => w'.cell? ⟨w1.heap.size, 4, none⟩ = some (.slice B l.ext.length d) ∧ w'.cell? ⟨w.heap.size, 0, none⟩ = some (.string T.name) ∧ w'.cell? ⟨w.heap.size, 1, none⟩ = some (.int .i64 T.tracks) ∧ w'.cell? ⟨w.heap.size, 2, none⟩ = some (.slice (some ⟨b, off, none⟩) T.labels.length c)) w9 from fun w8 w9 h9 z1 z2 h8 => by
      simp only [h9.cellEq _ _ z1, h9.cellEq _ _ z2]
      exact h8)
    have hS : (fun w' : World => w'.cell? ⟨w1.heap.size, 4, none⟩ = some (.slice B l.ext.length d) ∧ w'.cell? ⟨w.heap.size, 0, none⟩ = some (.string T.name) ∧ w'.cell? ⟨w.heap.size, 1, none⟩ = some (.int .i64 T.tracks) ∧ w'.cell? ⟨w.heap.size, 2, none⟩ = some (.slice (some ⟨b, off, none⟩) T.labels.length c)) (w1.alloc (.cells #[.int .i64 l.id, .int .i64 l.unit, .string l.name, .string l.note, .slice B l.ext.length d] 31)).drew := ⟨HNL.out.drew.cell 4, HB2.out.drew.cell 0, HB2.out.drew.cell 1, HB2.out.drew.cell 2⟩
    have hq1 := HNL.out.drew.lt
    have hq2 := HB2.out.drew.lt
    go_wp2_with fail
    refine wp_region_R [10] (fun w' : World => w'.cell? ⟨w1.heap.size, 4, none⟩ = some (.slice B l.ext.length d) ∧ w'.cell? ⟨w.heap.size, 0, none⟩ = some (.string T.name) ∧ w'.cell? ⟨w.heap.size, 1, none⟩ = some (.int .i64 T.tracks) ∧ w'.cell? ⟨w.heap.size, 2, none⟩ = some (.slice (some ⟨b, off, none⟩) T.labels.length c)) (by kernel_rfl) ?_
    refine wpAnyR_takeQ (i := 0) (v := ?_) (some 27) rfl rfl (by kernel_rfl) (by kernel_rfl) (by kernel_rfl) (by kernel_rfl) (fun _ _ _ h => h) (Or.inl ⟨by rfl, ?_⟩) ?_
    rotate_left
    focus (intro wS hSw; (try dsimp only at hSw); go_simp; (try with_reducible rfl); (try (first | (rw [if_pos (by omega)]; (try go_simp); (try with_reducible rfl)) | (rw [if_neg (by omega)]; (try go_simp); (try with_reducible rfl)))))
    try simp only [Act.put, zA, zB, zC]
    refine wpAnyR_take (i := 1) (v := ?_) [5, 6, 7, 8, 9, 10, 11] (some 28) rfl rfl (by kernel_rfl) (by kernel_rfl) (by kernel_rfl) (by kernel_rfl) (by kernel_rfl) (by kernel_rfl) (by kernel_rfl) (fun _ _ _ h => h) (Or.inl ⟨by rfl, ?_⟩) hS ?_
    rotate_left
    focus (intro wS hSw; (try dsimp only at hSw); go_simp; (try with_reducible rfl); (try (first | (rw [if_pos (by omega)]; (try go_simp); (try with_reducible rfl)) | (rw [if_neg (by omega)]; (try go_simp); (try with_reducible rfl)))))
    try simp only [Act.put, zA, zB, zC]
    refine wpAnyR_take (i := 2) (v := ?_) [3, 5, 6, 7, 8, 9, 10, 11] (some 29) rfl rfl (by kernel_rfl) (by kernel_rfl) (by kernel_rfl) (by kernel_rfl) (by kernel_rfl) (by kernel_rfl) (by kernel_rfl) (fun _ _ _ h => h) (Or.inl ⟨by rfl, ?_⟩) hS ?_
    rotate_left
    focus (intro wS hSw; (try dsimp only at hSw); go_simp; (try with_reducible rfl); (try (first | (rw [if_pos (by omega)]; (try go_simp); (try with_reducible rfl)) | (rw [if_neg (by omega)]; (try go_simp); (try with_reducible rfl)))))
    try simp only [Act.put, zA, zB, zC]
    refine wpAnyR_takeQ (i := 4) (v := ?_) (some 31) rfl rfl (by kernel_rfl) (by kernel_rfl) (by kernel_rfl) (by kernel_rfl) (fun _ _ _ h => h) (Or.inl ⟨by rfl, ?_⟩) ?_
    rotate_left
    focus (intro wS hSw; (try dsimp only at hSw); go_simp; (try with_reducible rfl); (try (first | (rw [if_pos (by omega)]; (try go_simp); (try with_reducible rfl)) | (rw [if_neg (by omega)]; (try go_simp); (try with_reducible rfl)))))
    try simp only [Act.put, zA, zB, zC]
    refine wpAnyR_n1 (i := 3) rfl (by kernel_rfl) ?_
    intro K' hK
    rw [if_pos (by rfl)]
    simp only [List.getElem_toArray, List.getElem_cons_succ, List.getElem_cons_zero]
    go_wp2_with fail
    refine (HFR.out _ HG2.out.drew kf HKF.out).mono ?_
    rintro e w4 ⟨A5, c5, rfl, hr5, g4⟩
    have hS4 := HSG.out _ _ g4 hq1 hq2 hS
    have HEX := Lib.hid (rextend_new (A := B) (c := d) (m := l.ext.length) (A2 := A5) (c2 := c5) (w := w4) rfl rfl hle (by omega) ((HLA.out.hold ((Grew.refl _).drew.trans g4)).runs) hr5 n n0 n1 ke 0 HKE.out HER.out)
    have hq3 := Nat.lt_of_lt_of_le hq1 g4.size
    have hq4 := Nat.lt_of_lt_of_le hq2 g4.size
    clear hr5
    go_wp2_with fail
    refine hK.out _ _ (.inr (fun _ => hS4)) ?_
    clear hK
    refine wpAnyR_n1 (i := 5) rfl (by kernel_rfl) ?_
    intro K' hK
    rw [if_pos (by rfl)]
    simp only [List.getElem_toArray, List.getElem_cons_succ, List.getElem_cons_zero]
    go_wp2_with fail
    refine HEX.out.mono ?_
    rintro e w3 ⟨A6, c6, rfl, hr6, g3⟩
    have g43 : Grew (w1.alloc (.cells #[.int .i64 l.id, .int .i64 l.unit, .string l.name, .string l.note, .slice B l.ext.length d] 31)) w3 := ((Grew.refl _).drew.trans g4).trans g3
    have HG3 := Lib.hid (HG2.out.trans g43)
    have HZ3 := Lib.hid (HZ2.out.grew g43)
    have HB3 := Lib.hid (HB2.out.grew g43)
    have HN3 := Lib.hid (HNL.out.grew g43)
    have HN6 := Lib.hid (show NewRuns (w1.alloc (.cells #[.int .i64 l.id, .int .i64 l.unit, .string l.name, .string l.note, .slice B l.ext.length d] 31)) w3 A6 c6 ke from ⟨hr6.1, hr6.2.1, hr6.2.2.1, fun b3 o3 e => Nat.le_trans ((Grew.refl (w1.alloc (.cells #[.int .i64 l.id, .int .i64 l.unit, .string l.name, .string l.note, .slice B l.ext.length d] 31))).drew.trans g4).size (hr6.2.2.2 b3 o3 e)⟩)
    have hS3 := HSG.out _ _ g3 hq3 hq4 hS4
    have hne1 : ¬ w.heap.size = w1.heap.size := by have := HB1.out.lt; omega
    have hne2 : ¬ w.heap.size + 1 + 1 = w1.heap.size := by have := HZ1.out.lt; omega
    clear hr6
    go_wp2_with fail
    refine hK.out _ _ (.inr (fun _ => hS3)) ?_
    clear hK
    refine wpAnyR_takeQ (i := 6) (v := ?_) (some 26) rfl rfl (by kernel_rfl) (by kernel_rfl) (by kernel_rfl) (by kernel_rfl) (fun _ _ _ h => h) (Or.inl ⟨by rfl, ?_⟩) ?_
    rotate_left
    focus (intro wS hSw; (try dsimp only at hSw); go_simp; (try with_reducible rfl); (try (first | (rw [if_pos (by omega)]; (try go_simp); (try with_reducible rfl)) | (rw [if_neg (by omega)]; (try go_simp); (try with_reducible rfl)))))
    try simp only [Act.put, zA, zB, zC]
    refine wpAnyR_takeQ (i := 7) (v := ?_) (some 33) rfl rfl (by kernel_rfl) (by kernel_rfl) (by kernel_rfl) (by kernel_rfl) (fun _ _ _ h => h) (Or.inl ⟨by rfl, ?_⟩) ?_
    rotate_left
    focus (intro wS hSw; (try dsimp only at hSw); go_simp; (try with_reducible rfl); (try (first | (rw [if_pos (by omega)]; (try go_simp); (try with_reducible rfl)) | (rw [if_neg (by omega)]; (try go_simp); (try with_reducible rfl)))))
    try simp only [Act.put, zA, zB, zC]
    refine wpAnyR_takeQ (i := 8) (v := ?_) (some 34) rfl rfl (by kernel_rfl) (by kernel_rfl) (by kernel_rfl) (by kernel_rfl) (fun _ _ _ h => h) (Or.inl ⟨by rfl, ?_⟩) ?_
    rotate_left
    focus (intro wS hSw; (try dsimp only at hSw); go_simp; (try with_reducible rfl); (try (first | (rw [if_pos (by omega)]; (try go_simp); (try with_reducible rfl)) | (rw [if_neg (by omega)]; (try go_simp); (try with_reducible rfl)))))
    try simp only [Act.put, zA, zB, zC]
    refine wpAnyR_takeQ (i := 9) (v := ?_) (some 35) rfl rfl (by kernel_rfl) (by kernel_rfl) (by kernel_rfl) (by kernel_rfl) (fun _ _ _ h => h) (Or.inl ⟨by rfl, ?_⟩) ?_
    rotate_left
    focus (intro wS hSw; (try dsimp only at hSw); go_simp; (try with_reducible rfl); (try (first | (rw [if_pos (by omega)]; (try go_simp); (try with_reducible rfl)) | (rw [if_neg (by omega)]; (try go_simp); (try with_reducible rfl)))))
    try simp only [Act.put, zA, zB, zC]
    have q4 := HN3.out.cell 4
    have qf := HN3.out.frozen 4
    have hql := HN3.out.lt
    refine wpAnyR_n1 (i := 10) rfl (by kernel_rfl) ?_
    intro K' hK
    rw [if_pos (by rfl)]
    simp only [List.getElem_toArray, List.getElem_cons_succ, List.getElem_cons_zero]
    go_wp2_with fail
    refine hK.out _ _ (.inl rfl) ?_
    clear hK
    refine wpAnyR_takeQ (i := 11) (v := ?_) (some 9) rfl rfl (by kernel_rfl) (by kernel_rfl) (by kernel_rfl) (by kernel_rfl) (fun _ _ _ h => h) (Or.inl ⟨by rfl, ?_⟩) ?_
    rotate_left
    focus (intro wS hSw; (try dsimp only at hSw); go_simp; (try with_reducible rfl); (try (first | (rw [if_pos (by omega)]; (try go_simp); (try with_reducible rfl)) | (rw [if_neg (by omega)]; (try go_simp); (try with_reducible rfl)))))
    try simp only [Act.put, zA, zB, zC]
    refine wpAnyR_done (by kernel_rfl) ?_ _
    clear hS hS4 hS3 hq1 hq2 hq3 hq4 g4 g3 g43 c0 c1 c2 c3 c4 b2 q4 qf hql HEX
    obtain ⟨W, hW⟩ : ∃ W, W = (w3.setCell ⟨w1.heap.size, 4, none⟩ (.slice A6 ke.length c6)) := ⟨_, rfl⟩
    rw [← hW]
    have HG4 := Lib.hid (show Grew w W from by rw [hW]; exact HG3.out.setCell (p := ⟨w1.heap.size, 4, none⟩) HW1.out _)
    have tu3 := set_turned w3 w1.heap.size 4 (.slice A6 ke.length c6)
    have HB4 := Lib.hid (show Blk W w.heap.size 24 #[.string T.name, .int .i64 T.tracks, .slice (some ⟨b, off, none⟩) T.labels.length c] from by rw [hW]; exact HB3.out.far (p := ⟨w1.heap.size, 4, none⟩) hne1 _)
    have HZ4 := Lib.hid (show Blk W (w.heap.size + 1 + 1) 24 #[.string ⟨#[]⟩, .int .i64 0, .slice none 0 0] from by rw [hW]; exact HZ3.out.far (p := ⟨w1.heap.size, 4, none⟩) hne2 _)
    have HN4 := Lib.hid (show Blk W w1.heap.size 31 #[.int .i64 l.id, .int .i64 l.unit, .string l.name, .string l.note, .slice A6 ke.length c6] from by rw [hW]; exact HN3.out.set_ 4 _)
    have HL4 := Lib.hid (show LabAt W A6 c6 { l with ext := ke } from ⟨HLA.out.id0, HLA.out.id1, HLA.out.unit0, HLA.out.unit1, HLA.out.name, HLA.out.note, by
      rw [hW]
      exact runs_turned HN6.out.1 tu3 (fun _ b3 o3 e e2 => by have := HN6.out.2.2.2 b3 o3 e; simp at this; omega), HN6.out.2.1, HN6.out.2.2.1⟩)
    clear tu3 hW
    have b0 := HB4.out.cell 0
    have b1 := HB4.out.cell 1
    have b2 := HB4.out.cell 2
    have hbl4 := HB4.out.lt
    have q0 := HN4.out.cell 0
    have q1 := HN4.out.cell 1
    have q2 := HN4.out.cell 2
    have q3 := HN4.out.cell 3
    have q4 := HN4.out.cell 4
    have hql := HN4.out.lt
    go_wp2_with fail
    refine (rput_tab _ c xs T _ (HTB.out.hold HG4.out) (by omega) k hk A6 c6 { l with ext := ke } HL4.out T' HT'.out).mono ?_
    rintro e w9 ⟨A9, c9, ys, rfl, ht9, g9⟩
    have hz9 := HZ4.out.grew g9
    have z0 := hz9.cell 0
    have z1 := hz9.cell 1
    have z2 := hz9.cell 2
    have f0 := hz9.frozen 0
    have f1 := hz9.frozen 1
    have f2 := hz9.frozen 2
    have hzl := hz9.lt
    have HG9 := Lib.hid (HG4.out.trans g9)
    have HT9 := Lib.hid (fun w10 (ht : Turned (fun x => x = w.heap.size + 1 + 1) w9 w10) => ht9.apart hz9 ht)
    clear hz9 g9 ht9
    go_wp2_with fail
    refine bodyPost_ret (by first | (simp [*, results, Tryz.results69, go_sem]; rfl) | simp [*, results, Tryz.results69, go_sem]) rfl ?_
    exact ⟨A9, c9, ys, rfl, HT9.out _ (by (repeat' first | (with_reducible exact Turned.refl _ _) | (with_reducible assumption) | (with_reducible refine Turned.alloc ?_ _) | (with_reducible refine Turned.drew ?_) | (with_reducible refine Turned.drewN ?_ _) | (with_reducible refine Turned.setRow ?_ (by first | (simp; done) | (simp; omega) | omega) _) | (with_reducible refine Turned.setCell ?_ (by first | (simp; done) | (simp; omega) | omega) _) | ((with_reducible apply Turned.andGrew); rotate_left; (with_reducible assumption)) | ((with_reducible apply Turned.trans); rotate_left; (with_reducible assumption)) | fail)), by have hg := HG9.out; (repeat' first | (with_reducible exact Grew.refl _) | (with_reducible assumption) | (with_reducible refine Grew.alloc ?_ _) | (with_reducible refine Grew.drew ?_) | (with_reducible refine Grew.drewN ?_ _) | (with_reducible refine Grew.setRow ?_ (by first | (simp; done) | (simp; omega) | omega) _) | (with_reducible refine Grew.setCell ?_ (by first | (simp; done) | (simp; omega) | omega) _) | ((with_reducible apply Grew.trans); rotate_left; (with_reducible assumption)) | ((with_reducible apply Grew.turn); rotate_left; (with_reducible assumption); (focus (intro i hi; first | omega | (simp at hi; omega)))) | fail)⟩
set_option maxRecDepth 100000 in
set_option maxHeartbeats 8000000 in
theorem rconfirm_tab (h : TabAt w A c xs T) (hs : SmallT T) (note : ByteArray) (hns : note.size ≤ 9223372036854775807) (T' : Tab) (er : Int) (hr : chgT T id unit (chCon T id note) = (T', er)) :
    Calls Tryz.prog 72 #[.agg #[.string T.name, .int .i64 T.tracks, .slice A T.labels.length c], .agg #[.int .i64 id, .int .i64 unit], .string note] w (TabR w T' er) := by
  have hg0 := ((((Grew.refl w).alloc (.cells #[.string T.name, .int .i64 T.tracks, .slice A T.labels.length c] 24)).alloc (.cells #[.int .i64 id, .int .i64 unit] 26))).alloc (.cells #[.string ⟨#[]⟩, .int .i64 0, .slice none 0 0] 24)
  have HB0 := Lib.hid (((Blk.new w 24 #[.string T.name, .int .i64 T.tracks, .slice A T.labels.length c] rfl).alloc (.cells #[.int .i64 id, .int .i64 unit] 26)).alloc (.cells #[.string ⟨#[]⟩, .int .i64 0, .slice none 0 0] 24))
  have HR0 := Lib.hid ((Blk.new (w.alloc (.cells #[.string T.name, .int .i64 T.tracks, .slice A T.labels.length c] 24)) 26 #[.int .i64 id, .int .i64 unit] (n := w.heap.size + 1) (by simp)).alloc (.cells #[.string ⟨#[]⟩, .int .i64 0, .slice none 0 0] 24))
  have HZ0 := Lib.hid (Blk.new ((w.alloc (.cells #[.string T.name, .int .i64 T.tracks, .slice A T.labels.length c] 24)).alloc (.cells #[.int .i64 id, .int .i64 unit] 26)) 24 #[.string ⟨#[]⟩, .int .i64 0, .slice none 0 0] (n := w.heap.size + 1 + 1) (by simp))
  have HFI := Lib.hid (fun w1 (hg : Grew w w1) i e he => rfd_any A c xs T id unit w1 (h.hold hg) hs i e he)
  have HFR := Lib.hid (fun w1 (hg : Grew w w1) kf hkf => rfree_tab A c xs T w1 (h.hold hg) hs _ rfl kf hkf)
  have HIX := Lib.hid (fun w1 (hg : Grew w w1) u ix hix => rindex_any A c xs T id u w1 (h.hold hg) hs _ rfl ix hix)
  have HTB := Lib.hid h
  have HS := Lib.hid hs
  have hlen := hs.len
  have hnm := h.name
  have ht0 := h.tr0
  have ht1 := h.tr1
  have HG0 := Lib.hid hg0
  clear h hs hg0
  rcases chgT_cases T id unit (chCon T id note) with ⟨hv, hx⟩ | ⟨hv, hi, hx⟩ | ⟨hv, k, hk, hi, hhit, hx⟩
  · rw [hx] at hr
    injection hr with e1 e2
    subst e1; subst e2
    have HX := Lib.hid (show findE T id unit = (-1, 1) from by unfold findE; rw [if_neg (by rw [hv]; simp)])
    clear hv hx
    go_enter Tryz.func72, Tryz.ntmps72
    go_wp2_with fail
    refine (HFI.out _ HG0.out _ _ HX.out).mono ?_
    rintro e w1 ⟨rfl, g1⟩
    have HG1 := Lib.hid (HG0.out.trans g1)
    have HZ1 := Lib.hid (HZ0.out.grew g1)
    have HB1 := Lib.hid (HB0.out.grew g1)
    have HR1 := Lib.hid (HR0.out.grew g1)
    clear g1
    have z0 := HZ1.out.cell 0
    have z1 := HZ1.out.cell 1
    have z2 := HZ1.out.cell 2
    have f0 := HZ1.out.frozen 0
    have f1 := HZ1.out.frozen 1
    have f2 := HZ1.out.frozen 2
    have hzl := HZ1.out.lt
    go_wp2_with fail
    refine bodyPost_ret (by first | (simp [*, results, Tryz.results72, go_sem]; rfl) | simp [*, results, Tryz.results72, go_sem]) rfl ?_
    exact ⟨none, 0, [], rfl, TabAt.zero _, by have hg := HG1.out; (repeat' first | (with_reducible exact Grew.refl _) | (with_reducible assumption) | (with_reducible refine Grew.alloc ?_ _) | (with_reducible refine Grew.drew ?_) | (with_reducible refine Grew.drewN ?_ _) | (with_reducible refine Grew.setRow ?_ (by first | (simp; done) | (simp; omega) | omega) _) | (with_reducible refine Grew.setCell ?_ (by first | (simp; done) | (simp; omega) | omega) _) | ((with_reducible apply Grew.trans); rotate_left; (with_reducible assumption)) | ((with_reducible apply Grew.turn); rotate_left; (with_reducible assumption); (focus (intro i hi; first | omega | (simp at hi; omega)))) | fail)⟩
  · rw [hx] at hr
    injection hr with e1 e2
    subst e1; subst e2
    have HX := Lib.hid (show findE T id unit = (-1, 6) from by unfold findE; rw [if_pos hv, hi, if_neg (by omega)])
    clear hv hx hi
    go_enter Tryz.func72, Tryz.ntmps72
    go_wp2_with fail
    refine (HFI.out _ HG0.out _ _ HX.out).mono ?_
    rintro e w1 ⟨rfl, g1⟩
    have HG1 := Lib.hid (HG0.out.trans g1)
    have HZ1 := Lib.hid (HZ0.out.grew g1)
    have HB1 := Lib.hid (HB0.out.grew g1)
    have HR1 := Lib.hid (HR0.out.grew g1)
    clear g1
    have z0 := HZ1.out.cell 0
    have z1 := HZ1.out.cell 1
    have z2 := HZ1.out.cell 2
    have f0 := HZ1.out.frozen 0
    have f1 := HZ1.out.frozen 1
    have f2 := HZ1.out.frozen 2
    have hzl := HZ1.out.lt
    go_wp2_with fail
    refine bodyPost_ret (by first | (simp [*, results, Tryz.results72, go_sem]; rfl) | simp [*, results, Tryz.results72, go_sem]) rfl ?_
    exact ⟨none, 0, [], rfl, TabAt.zero _, by have hg := HG1.out; (repeat' first | (with_reducible exact Grew.refl _) | (with_reducible assumption) | (with_reducible refine Grew.alloc ?_ _) | (with_reducible refine Grew.drew ?_) | (with_reducible refine Grew.drewN ?_ _) | (with_reducible refine Grew.setRow ?_ (by first | (simp; done) | (simp; omega) | omega) _) | (with_reducible refine Grew.setCell ?_ (by first | (simp; done) | (simp; omega) | omega) _) | ((with_reducible apply Grew.trans); rotate_left; (with_reducible assumption)) | ((with_reducible apply Grew.turn); rotate_left; (with_reducible assumption); (focus (intro i hi; first | omega | (simp at hi; omega)))) | fail)⟩
  have HX := Lib.hid (show findE T id unit = ((k : Int), 0) from by unfold findE; rw [if_pos hv, hi, if_pos (by omega)])
  have hhu := ((hitL_iff _ _ _).1 hhit).2.2
  obtain ⟨l, hlk⟩ : ∃ l, T.labels[k] = l := ⟨_, rfl⟩
  rw [hlk] at hx hhu
  have hle := HS.out.ext T.labels[k] (List.getElem_mem hk)
  rw [hlk] at hle
  have HLK := Lib.hid hlk
  have HHU := Lib.hid hhu
  clear hv hi hhit hlk hhu
  have hc0 : chCon T id note k l = if l.unit = 0 then (T.labels, 9) else if 400 < note.size then (T.labels, 1) else ((if 0 ≤ idxT T id 0 then T.labels.set (idxT T id 0).toNat labZ else T.labels).set k { l with unit := 0, note := note }, 0) := rfl
  rw [HHU.out] at hc0
  cases hu : (unit == 0) with
  | true =>
    have hc : chCon T id note k l = (T.labels, 9) := hc0.trans (if_pos (by simpa using hu))
    rw [hc] at hx
    clear hc hc0
    rcases hx with ⟨h0, hx⟩ | ⟨h0, hx⟩
    · exact absurd h0 (show ¬ (9 : Int) = 0 by decide)
    rw [hx] at hr
    injection hr with e1 e2
    subst e1; subst e2
    clear hx h0
    go_enter Tryz.func72, Tryz.ntmps72
    go_wp2_with fail
    refine (HFI.out _ HG0.out _ _ HX.out).mono ?_
    rintro e w1 ⟨rfl, g1⟩
    have HG1 := Lib.hid (HG0.out.trans g1)
    have HZ1 := Lib.hid (HZ0.out.grew g1)
    have HB1 := Lib.hid (HB0.out.grew g1)
    have HR1 := Lib.hid (HR0.out.grew g1)
    clear g1
    have r1 := HR1.out.cell 1
    have hrl := HR1.out.lt
    have z0 := HZ1.out.cell 0
    have z1 := HZ1.out.cell 1
    have z2 := HZ1.out.cell 2
    have f0 := HZ1.out.frozen 0
    have f1 := HZ1.out.frozen 1
    have f2 := HZ1.out.frozen 2
    have hzl := HZ1.out.lt
    go_wp2_with fail
    refine bodyPost_ret (by first | (simp [*, results, Tryz.results72, go_sem]; rfl) | simp [*, results, Tryz.results72, go_sem]) rfl ?_
    exact ⟨none, 0, [], rfl, TabAt.zero _, by have hg := HG1.out; (repeat' first | (with_reducible exact Grew.refl _) | (with_reducible assumption) | (with_reducible refine Grew.alloc ?_ _) | (with_reducible refine Grew.drew ?_) | (with_reducible refine Grew.drewN ?_ _) | (with_reducible refine Grew.setRow ?_ (by first | (simp; done) | (simp; omega) | omega) _) | (with_reducible refine Grew.setCell ?_ (by first | (simp; done) | (simp; omega) | omega) _) | ((with_reducible apply Grew.trans); rotate_left; (with_reducible assumption)) | ((with_reducible apply Grew.turn); rotate_left; (with_reducible assumption); (focus (intro i hi; first | omega | (simp at hi; omega)))) | fail)⟩
  | false =>
  have hu0 : ¬ unit = 0 := by simpa using hu
  rw [if_neg hu0] at hc0
  clear hu0
  by_cases hn : 400 < note.size
  · have hni : (note.size : Int) > 400 := by omega
    rw [if_pos hn] at hc0
    rw [hc0] at hx
    clear hc0
    rcases hx with ⟨h0, hx⟩ | ⟨h0, hx⟩
    · exact absurd h0 (show ¬ (1 : Int) = 0 by decide)
    rw [hx] at hr
    injection hr with e1 e2
    subst e1; subst e2
    clear hx h0
    go_enter Tryz.func72, Tryz.ntmps72
    go_wp2_with fail
    refine (HFI.out _ HG0.out _ _ HX.out).mono ?_
    rintro e w1 ⟨rfl, g1⟩
    have HG1 := Lib.hid (HG0.out.trans g1)
    have HZ1 := Lib.hid (HZ0.out.grew g1)
    have HB1 := Lib.hid (HB0.out.grew g1)
    have HR1 := Lib.hid (HR0.out.grew g1)
    clear g1
    have r1 := HR1.out.cell 1
    have hrl := HR1.out.lt
    have z0 := HZ1.out.cell 0
    have z1 := HZ1.out.cell 1
    have z2 := HZ1.out.cell 2
    have f0 := HZ1.out.frozen 0
    have f1 := HZ1.out.frozen 1
    have f2 := HZ1.out.frozen 2
    have hzl := HZ1.out.lt
    go_wp2_with fail
    refine bodyPost_ret (by first | (simp [*, results, Tryz.results72, go_sem]; rfl) | simp [*, results, Tryz.results72, go_sem]) rfl ?_
    exact ⟨none, 0, [], rfl, TabAt.zero _, by have hg := HG1.out; (repeat' first | (with_reducible exact Grew.refl _) | (with_reducible assumption) | (with_reducible refine Grew.alloc ?_ _) | (with_reducible refine Grew.drew ?_) | (with_reducible refine Grew.drewN ?_ _) | (with_reducible refine Grew.setRow ?_ (by first | (simp; done) | (simp; omega) | omega) _) | (with_reducible refine Grew.setCell ?_ (by first | (simp; done) | (simp; omega) | omega) _) | ((with_reducible apply Grew.trans); rotate_left; (with_reducible assumption)) | ((with_reducible apply Grew.turn); rotate_left; (with_reducible assumption); (focus (intro i hi; first | omega | (simp at hi; omega)))) | fail)⟩
  have hni : ¬ (note.size : Int) > 400 := by omega
  rw [if_neg hn] at hc0
  obtain ⟨ix, hix⟩ : ∃ ix, idxT T id 0 = ix := ⟨_, rfl⟩
  rw [hix] at hc0
  rw [hc0] at hx
  clear hc0
  rcases hx with ⟨h0, hx⟩ | ⟨h0, hx⟩
  rotate_left
  · exact absurd rfl h0
  rw [hx] at hr
  injection hr with e1 e2
  subst e2
  clear hx h0
  have HIXX := Lib.hid hix
  rcases idxP_cases (hitL id 0) T.labels with ⟨j, hj, hj1, -, -⟩ | ⟨hj1, -⟩
  rotate_left
  · have hij : ix = -1 := hix.symm.trans hj1
    subst hij
    have HT' := Lib.hid (show { T with labels := T.labels.set k { l with unit := 0, note := note } } = T' from by rw [← e1, if_neg (by omega)])
    clear hix hj1 e1
    go_enter Tryz.func72, Tryz.ntmps72
    go_wp2_with fail
    refine (HFI.out _ HG0.out _ _ HX.out).mono ?_
    rintro e w1 ⟨rfl, g1⟩
    have HG1 := Lib.hid (HG0.out.trans g1)
    have HZ1 := Lib.hid (HZ0.out.grew g1)
    have HB1 := Lib.hid (HB0.out.grew g1)
    have HR1 := Lib.hid (HR0.out.grew g1)
    clear g1
    have r0 := HR1.out.cell 0
    have r1 := HR1.out.cell 1
    have hrl := HR1.out.lt
    have hkn : (k : Int) < (T.labels.length : Int) := by omega
    have b2 := HB1.out.cell 2
    have hbl1 := HB1.out.lt
    obtain ⟨b, off, B, d, l', rfl, hbl, hxk, hv, hla, c0, c1, c2, c3, c4⟩ := (HTB.out.hold HG1.out).at_ hk
    rw [HLK.out] at hv
    subst hv
    have hgx : Grew w1 (w1.alloc (.cells #[.int .i64 l.id, .int .i64 0, .string l.name, .string note, .slice B l.ext.length d] 31)) := (Grew.refl w1).alloc _
    have HLA := Lib.hid (hla.hold hgx)
    have HNL := Lib.hid (Blk.new w1 31 #[.int .i64 l.id, .int .i64 0, .string l.name, .string note, .slice B l.ext.length d] rfl)
    have HG2 := Lib.hid (HG1.out.trans hgx)
    have HZ2 := Lib.hid (HZ1.out.grew hgx)
    have HB2 := Lib.hid (HB1.out.grew hgx)
    have HR2 := Lib.hid (HR1.out.grew hgx)
    have HW1 := Lib.hid HG1.out.size
    clear hla hgx hxk
    have HL2 := Lib.hid (show LabAt _ B d { l with unit := 0, note := note } from ⟨HLA.out.id0, HLA.out.id1, by simp only; omega, by simp only; omega, HLA.out.name, hns, HLA.out.runs, HLA.out.len, HLA.out.cap⟩)
    have b0 := HB1.out.cell 0
    have b1 := HB1.out.cell 1
    go_wp2_with fail
    refine (HIX.out _ HG2.out 0 _ HIXX.out).mono ?_
    rintro e w3 ⟨rfl, g3⟩
    clear b0 b1 b2 hbl1 c0 c1 c2 c3 c4 r0 r1 hrl
    have HG3 := Lib.hid (HG2.out.trans g3)
    have HZ3 := Lib.hid (HZ2.out.grew g3)
    have HB3 := Lib.hid (HB2.out.grew g3)
    have HN3 := Lib.hid (HNL.out.grew g3)
    have HL3 := Lib.hid (HL2.out.hold g3)
    clear g3
    have b0 := HB3.out.cell 0
    have b1 := HB3.out.cell 1
    have b2 := HB3.out.cell 2
    have hbl4 := HB3.out.lt
    have q0 := HN3.out.cell 0
    have q1 := HN3.out.cell 1
    have q2 := HN3.out.cell 2
    have q3 := HN3.out.cell 3
    have q4 := HN3.out.cell 4
    have hql := HN3.out.lt
    go_wp2_with fail
    refine (rput_tab _ c xs T _ (HTB.out.hold HG3.out) (by omega) k hk B d { l with unit := 0, note := note } HL3.out T' HT'.out).mono ?_
    rintro e w9 ⟨A9, c9, ys, rfl, ht9, g9⟩
    have hz9 := HZ3.out.grew g9
    have z0 := hz9.cell 0
    have z1 := hz9.cell 1
    have z2 := hz9.cell 2
    have f0 := hz9.frozen 0
    have f1 := hz9.frozen 1
    have f2 := hz9.frozen 2
    have hzl := hz9.lt
    have HG9 := Lib.hid (HG3.out.trans g9)
    have HT9 := Lib.hid (fun w10 (ht : Turned (fun x => x = w.heap.size + 1 + 1) w9 w10) => ht9.apart hz9 ht)
    clear hz9 g9 ht9
    go_wp2_with fail
    refine bodyPost_ret (by first | (simp [*, results, Tryz.results72, go_sem]; rfl) | simp [*, results, Tryz.results72, go_sem]) rfl ?_
    exact ⟨A9, c9, ys, rfl, HT9.out _ (by (repeat' first | (with_reducible exact Turned.refl _ _) | (with_reducible assumption) | (with_reducible refine Turned.alloc ?_ _) | (with_reducible refine Turned.drew ?_) | (with_reducible refine Turned.drewN ?_ _) | (with_reducible refine Turned.setRow ?_ (by first | (simp; done) | (simp; omega) | omega) _) | (with_reducible refine Turned.setCell ?_ (by first | (simp; done) | (simp; omega) | omega) _) | ((with_reducible apply Turned.andGrew); rotate_left; (with_reducible assumption)) | ((with_reducible apply Turned.trans); rotate_left; (with_reducible assumption)) | fail)), by have hg := HG9.out; (repeat' first | (with_reducible exact Grew.refl _) | (with_reducible assumption) | (with_reducible refine Grew.alloc ?_ _) | (with_reducible refine Grew.drew ?_) | (with_reducible refine Grew.drewN ?_ _) | (with_reducible refine Grew.setRow ?_ (by first | (simp; done) | (simp; omega) | omega) _) | (with_reducible refine Grew.setCell ?_ (by first | (simp; done) | (simp; omega) | omega) _) | ((with_reducible apply Grew.trans); rotate_left; (with_reducible assumption)) | ((with_reducible apply Grew.turn); rotate_left; (with_reducible assumption); (focus (intro i hi; first | omega | (simp at hi; omega)))) | fail)⟩
  · have hij : ix = (j : Int) := hix.symm.trans hj1
    subst hij
    have HT' := Lib.hid (show { T with labels := (T.labels.set j labZ).set k { l with unit := 0, note := note } } = T' from by rw [← e1, if_pos (by omega), Int.toNat_natCast])
    clear hix hj1 e1
    obtain ⟨T2, hT2⟩ : ∃ T2 : Tab, { T with labels := T.labels.set j labZ } = T2 := ⟨_, rfl⟩
    have HT2 := Lib.hid hT2
    have HT2' := Lib.hid (show { T2 with labels := T2.labels.set k { l with unit := 0, note := note } } = T' from by rw [← hT2]; exact HT'.out)
    have hk2 : k < T2.labels.length := by rw [← hT2]; simpa using hk
    have hl2n : T2.labels.length ≤ 1000 := by rw [← hT2]; simpa using hlen
    clear hT2
    go_enter Tryz.func72, Tryz.ntmps72
    go_wp2_with fail
    refine (HFI.out _ HG0.out _ _ HX.out).mono ?_
    rintro e w1 ⟨rfl, g1⟩
    have HG1 := Lib.hid (HG0.out.trans g1)
    have HZ1 := Lib.hid (HZ0.out.grew g1)
    have HB1 := Lib.hid (HB0.out.grew g1)
    have HR1 := Lib.hid (HR0.out.grew g1)
    clear g1
    have r0 := HR1.out.cell 0
    have r1 := HR1.out.cell 1
    have hrl := HR1.out.lt
    have hkn : (k : Int) < (T.labels.length : Int) := by omega
    have b2 := HB1.out.cell 2
    have hbl1 := HB1.out.lt
    obtain ⟨b, off, B, d, l', rfl, hbl, hxk, hv, hla, c0, c1, c2, c3, c4⟩ := (HTB.out.hold HG1.out).at_ hk
    rw [HLK.out] at hv
    subst hv
    have hgx : Grew w1 (w1.alloc (.cells #[.int .i64 l.id, .int .i64 0, .string l.name, .string note, .slice B l.ext.length d] 31)) := (Grew.refl w1).alloc _
    have HLA := Lib.hid (hla.hold hgx)
    have HNL := Lib.hid (Blk.new w1 31 #[.int .i64 l.id, .int .i64 0, .string l.name, .string note, .slice B l.ext.length d] rfl)
    have HG2 := Lib.hid (HG1.out.trans hgx)
    have HZ2 := Lib.hid (HZ1.out.grew hgx)
    have HB2 := Lib.hid (HB1.out.grew hgx)
    have HR2 := Lib.hid (HR1.out.grew hgx)
    have HW1 := Lib.hid HG1.out.size
    clear hla hgx hxk
    have HL2 := Lib.hid (show LabAt _ B d { l with unit := 0, note := note } from ⟨HLA.out.id0, HLA.out.id1, by simp only; omega, by simp only; omega, HLA.out.name, hns, HLA.out.runs, HLA.out.len, HLA.out.cap⟩)
    have b0 := HB1.out.cell 0
    have b1 := HB1.out.cell 1
    go_wp2_with fail
    refine (HIX.out _ HG2.out 0 _ HIXX.out).mono ?_
    rintro e w3 ⟨rfl, g3⟩
    clear b0 b1 b2 hbl1 c0 c1 c2 c3 c4 r0 r1 hrl
    have HG3 := Lib.hid (HG2.out.trans g3)
    have HZ3 := Lib.hid (HZ2.out.grew g3)
    have HB3 := Lib.hid (HB2.out.grew g3)
    have HN3 := Lib.hid (HNL.out.grew g3)
    have HL3 := Lib.hid (HL2.out.hold g3)
    clear g3
    have b0 := HB3.out.cell 0
    have b1 := HB3.out.cell 1
    have b2 := HB3.out.cell 2
    have hbl4 := HB3.out.lt
    have q0 := HN3.out.cell 0
    have q1 := HN3.out.cell 1
    have q2 := HN3.out.cell 2
    have q3 := HN3.out.cell 3
    have q4 := HN3.out.cell 4
    have hql := HN3.out.lt
    go_wp2_with fail
    refine (rput_tab _ c xs T _ (HTB.out.hold HG3.out) (by omega) j hj none 0 labZ (LabAt.zero _) T2 HT2.out).mono ?_
    rintro e w4 ⟨A4, c4', ys4, rfl, ht4, g4⟩
    have hb4 := HB3.out.grew g4
    clear b0 b1 b2 hbl4 q0 q1 q2 q3 q4 hql
    have b0 := hb4.cell 0
    have b1 := hb4.cell 1
    have b2 := hb4.cell 2
    have bf0 := hb4.frozen 0
    have bf1 := hb4.frozen 1
    have bf2 := hb4.frozen 2
    have hbl4 := hb4.lt
    have hn4 := HN3.out.grew g4
    have q0 := hn4.cell 0
    have q1 := hn4.cell 1
    have q2 := hn4.cell 2
    have q3 := hn4.cell 3
    have q4 := hn4.cell 4
    have hql := hn4.lt
    have hne1 : ¬ w1.heap.size = w.heap.size := by have := HB1.out.lt; omega
    have HT4 := Lib.hid (ht4.apart hb4 (tab3_turned w4 w.heap.size (.string T2.name) (.int .i64 T2.tracks) (.slice A4 T2.labels.length c4')))
    have HG4 := Lib.hid ((HG3.out.trans g4).tab3 (Nat.le_refl _) (.string T2.name) (.int .i64 T2.tracks) (.slice A4 T2.labels.length c4'))
    have HZ4 := Lib.hid ((HZ3.out.grew g4).turned (tab3_turned w4 w.heap.size (.string T2.name) (.int .i64 T2.tracks) (.slice A4 T2.labels.length c4')) (by omega))
    have HL4 := Lib.hid ((HL3.out.hold g4).turned (tab3_turned w4 w.heap.size (.string T2.name) (.int .i64 T2.tracks) (.slice A4 T2.labels.length c4')) (fun h0 b3 o3 e => runs_ne_tab (HL3.out.hold g4).runs h0 hb4 b3 o3 e))
    clear hb4 hn4 ht4 g4
    go_wp2_with fail
    refine (rput_tab _ _ ys4 T2 _ HT4.out hl2n k hk2 B d { l with unit := 0, note := note } HL4.out T' HT2'.out).mono ?_
    rintro e w9 ⟨A9, c9, ys, rfl, ht9, g9⟩
    have hz9 := HZ4.out.grew g9
    have z0 := hz9.cell 0
    have z1 := hz9.cell 1
    have z2 := hz9.cell 2
    have f0 := hz9.frozen 0
    have f1 := hz9.frozen 1
    have f2 := hz9.frozen 2
    have hzl := hz9.lt
    have HG9 := Lib.hid (HG4.out.trans g9)
    have HT9 := Lib.hid (fun w10 (ht : Turned (fun x => x = w.heap.size + 1 + 1) w9 w10) => ht9.apart hz9 ht)
    clear hz9 g9 ht9
    go_wp2_with fail
    refine bodyPost_ret (by first | (simp [*, results, Tryz.results72, go_sem]; rfl) | simp [*, results, Tryz.results72, go_sem]) rfl ?_
    exact ⟨A9, c9, ys, rfl, HT9.out _ (by (repeat' first | (with_reducible exact Turned.refl _ _) | (with_reducible assumption) | (with_reducible refine Turned.alloc ?_ _) | (with_reducible refine Turned.drew ?_) | (with_reducible refine Turned.drewN ?_ _) | (with_reducible refine Turned.setRow ?_ (by first | (simp; done) | (simp; omega) | omega) _) | (with_reducible refine Turned.setCell ?_ (by first | (simp; done) | (simp; omega) | omega) _) | ((with_reducible apply Turned.andGrew); rotate_left; (with_reducible assumption)) | ((with_reducible apply Turned.trans); rotate_left; (with_reducible assumption)) | fail)), by have hg := HG9.out; (repeat' first | (with_reducible exact Grew.refl _) | (with_reducible assumption) | (with_reducible refine Grew.alloc ?_ _) | (with_reducible refine Grew.drew ?_) | (with_reducible refine Grew.drewN ?_ _) | (with_reducible refine Grew.setRow ?_ (by first | (simp; done) | (simp; omega) | omega) _) | (with_reducible refine Grew.setCell ?_ (by first | (simp; done) | (simp; omega) | omega) _) | ((with_reducible apply Grew.trans); rotate_left; (with_reducible assumption)) | ((with_reducible apply Grew.turn); rotate_left; (with_reducible assumption); (focus (intro i hi; first | omega | (simp at hi; omega)))) | fail)⟩
end
end Go.Proofs.YtnlaogneceanoaaGreat
namespace Go.Proofs.YtnlaogneceanoaaGreat
set_option linter.unusedVariables false
set_option linter.unusedSimpArgs false
set_option linter.unusedSectionVars false
open Go.RowKit
attribute [local go_sem ↓] Go.wp_at_zero Go.wp_at_succ
section
variable (A : Option Addr) (c : Nat) (xs : List LabE) (T : Tab) (id unit : Int) (w : World)
set_option maxRecDepth 100000 in
set_option maxHeartbeats 16000000 in
theorem rreplace_tab (h : TabAt w A c xs T) (hs : SmallT T) (Ax : Option Addr) (cx : Nat) (ex : List (Int × Int)) (hx0 : RunsAt w w.heap.size Ax ex) (hxl : ex.length ≤ 1000) (T' : Tab) (er : Int) (hr : chgT T id unit (chRep T ex) = (T', er)) :
    Calls Tryz.prog 71 #[.agg #[.string T.name, .int .i64 T.tracks, .slice A T.labels.length c], .agg #[.int .i64 id, .int .i64 unit], .slice Ax ex.length cx] w (TabR w T' er) := by
  have hg0 := ((((Grew.refl w).alloc (.cells #[.string T.name, .int .i64 T.tracks, .slice A T.labels.length c] 24)).alloc (.cells #[.int .i64 id, .int .i64 unit] 26))).alloc (.cells #[.string ⟨#[]⟩, .int .i64 0, .slice none 0 0] 24)
  have HB0 := Lib.hid (((Blk.new w 24 #[.string T.name, .int .i64 T.tracks, .slice A T.labels.length c] rfl).alloc (.cells #[.int .i64 id, .int .i64 unit] 26)).alloc (.cells #[.string ⟨#[]⟩, .int .i64 0, .slice none 0 0] 24))
  have HR0 := Lib.hid ((Blk.new (w.alloc (.cells #[.string T.name, .int .i64 T.tracks, .slice A T.labels.length c] 24)) 26 #[.int .i64 id, .int .i64 unit] (n := w.heap.size + 1) (by simp)).alloc (.cells #[.string ⟨#[]⟩, .int .i64 0, .slice none 0 0] 24))
  have HZ0 := Lib.hid (Blk.new ((w.alloc (.cells #[.string T.name, .int .i64 T.tracks, .slice A T.labels.length c] 24)).alloc (.cells #[.int .i64 id, .int .i64 unit] 26)) 24 #[.string ⟨#[]⟩, .int .i64 0, .slice none 0 0] (n := w.heap.size + 1 + 1) (by simp))
  have HFI := Lib.hid (fun w1 (hg : Grew w w1) i e he => rfd_any A c xs T id unit w1 (h.hold hg) hs i e he)
  have HFR := Lib.hid (fun w1 (hg : Grew w w1) kf hkf => rfree_tab A c xs T w1 (h.hold hg) hs _ rfl kf hkf)
  have HIX := Lib.hid (fun w1 (hg : Grew w w1) u ix hix => rindex_any A c xs T id u w1 (h.hold hg) hs _ rfl ix hix)
  have HTB := Lib.hid h
  have HXR := Lib.hid (fun w1 (hg : Grew w w1) => RunsAt.hold (w := w) hx0 hg)
  have HOKX := Lib.hid hx0.1
  have HS := Lib.hid hs
  have hlen := hs.len
  have hnm := h.name
  have ht0 := h.tr0
  have ht1 := h.tr1
  have HG0 := Lib.hid hg0
  clear h hs hg0 hx0
  rcases chgT_cases T id unit (chRep T ex) with ⟨hv, hx⟩ | ⟨hv, hi, hx⟩ | ⟨hv, k, hk, hi, hhit, hx⟩
  · rw [hx] at hr
    injection hr with e1 e2
    subst e1; subst e2
    have HX := Lib.hid (show findE T id unit = (-1, 1) from by unfold findE; rw [if_neg (by rw [hv]; simp)])
    clear hv hx
    go_enter Tryz.func71, Tryz.ntmps71
    go_wp2_with fail
    refine (HFI.out _ HG0.out _ _ HX.out).mono ?_
    rintro e w1 ⟨rfl, g1⟩
    have HG1 := Lib.hid (HG0.out.trans g1)
    have HZ1 := Lib.hid (HZ0.out.grew g1)
    have HB1 := Lib.hid (HB0.out.grew g1)
    have HR1 := Lib.hid (HR0.out.grew g1)
    clear g1
    have z0 := HZ1.out.cell 0
    have z1 := HZ1.out.cell 1
    have z2 := HZ1.out.cell 2
    have f0 := HZ1.out.frozen 0
    have f1 := HZ1.out.frozen 1
    have f2 := HZ1.out.frozen 2
    have hzl := HZ1.out.lt
    go_wp2_with fail
    refine bodyPost_ret (by first | (simp [*, results, Tryz.results71, go_sem]; rfl) | simp [*, results, Tryz.results71, go_sem]) rfl ?_
    exact ⟨none, 0, [], rfl, TabAt.zero _, by have hg := HG1.out; (repeat' first | (with_reducible exact Grew.refl _) | (with_reducible assumption) | (with_reducible refine Grew.alloc ?_ _) | (with_reducible refine Grew.drew ?_) | (with_reducible refine Grew.drewN ?_ _) | (with_reducible refine Grew.setRow ?_ (by first | (simp; done) | (simp; omega) | omega) _) | (with_reducible refine Grew.setCell ?_ (by first | (simp; done) | (simp; omega) | omega) _) | ((with_reducible apply Grew.trans); rotate_left; (with_reducible assumption)) | ((with_reducible apply Grew.turn); rotate_left; (with_reducible assumption); (focus (intro i hi; first | omega | (simp at hi; omega)))) | fail)⟩
  · rw [hx] at hr
    injection hr with e1 e2
    subst e1; subst e2
    have HX := Lib.hid (show findE T id unit = (-1, 6) from by unfold findE; rw [if_pos hv, hi, if_neg (by omega)])
    clear hv hx hi
    go_enter Tryz.func71, Tryz.ntmps71
    go_wp2_with fail
    refine (HFI.out _ HG0.out _ _ HX.out).mono ?_
    rintro e w1 ⟨rfl, g1⟩
    have HG1 := Lib.hid (HG0.out.trans g1)
    have HZ1 := Lib.hid (HZ0.out.grew g1)
    have HB1 := Lib.hid (HB0.out.grew g1)
    have HR1 := Lib.hid (HR0.out.grew g1)
    clear g1
    have z0 := HZ1.out.cell 0
    have z1 := HZ1.out.cell 1
    have z2 := HZ1.out.cell 2
    have f0 := HZ1.out.frozen 0
    have f1 := HZ1.out.frozen 1
    have f2 := HZ1.out.frozen 2
    have hzl := HZ1.out.lt
    go_wp2_with fail
    refine bodyPost_ret (by first | (simp [*, results, Tryz.results71, go_sem]; rfl) | simp [*, results, Tryz.results71, go_sem]) rfl ?_
    exact ⟨none, 0, [], rfl, TabAt.zero _, by have hg := HG1.out; (repeat' first | (with_reducible exact Grew.refl _) | (with_reducible assumption) | (with_reducible refine Grew.alloc ?_ _) | (with_reducible refine Grew.drew ?_) | (with_reducible refine Grew.drewN ?_ _) | (with_reducible refine Grew.setRow ?_ (by first | (simp; done) | (simp; omega) | omega) _) | (with_reducible refine Grew.setCell ?_ (by first | (simp; done) | (simp; omega) | omega) _) | ((with_reducible apply Grew.trans); rotate_left; (with_reducible assumption)) | ((with_reducible apply Grew.turn); rotate_left; (with_reducible assumption); (focus (intro i hi; first | omega | (simp at hi; omega)))) | fail)⟩
  have HX := Lib.hid (show findE T id unit = ((k : Int), 0) from by unfold findE; rw [if_pos hv, hi, if_pos (by omega)])
  obtain ⟨l, hlk⟩ : ∃ l, T.labels[k] = l := ⟨_, rfl⟩
  rw [hlk] at hx
  have hle := HS.out.ext T.labels[k] (List.getElem_mem hk)
  rw [hlk] at hle
  have HLK := Lib.hid hlk
  clear hv hi hhit hlk
  obtain ⟨sl, hsl⟩ : ∃ s, sizeS l.ext = s := ⟨_, rfl⟩
  obtain ⟨sx, hsx⟩ : ∃ s, sizeS ex = s := ⟨_, rfl⟩
  obtain ⟨U, hU⟩ : ∃ U : Tab, { T with labels := T.labels.set k { l with ext := ex } } = U := ⟨_, rfl⟩
  obtain ⟨vu, hvu⟩ : ∃ b, validT U = b := ⟨_, rfl⟩
  have hc : chRep T ex k l = (T.labels.set k { l with ext := ex }, if sx = sl ∧ vu = true then 0 else 1) := by unfold chRep; rw [hU, hsl, hsx, hvu]
  rw [hc] at hx
  try simp only at hx
  rw [hU] at hx
  have HSU := Lib.hid (show SmallT U from by
    rw [← hU]
    refine ⟨by simpa using HS.out.len, fun m hm => ?_⟩
    rcases List.mem_or_eq_of_mem_set hm with hm | rfl
    · exact HS.out.ext m hm
    · exact hxl)
  have HSL := Lib.hid hsl
  have HSX := Lib.hid hsx
  have HU := Lib.hid hU
  have HVU := Lib.hid hvu
  have hb1 := sizeS_le l.ext
  have hb2 := sizeS_le ex
  rw [hsl] at hb1
  rw [hsx] at hb2
  clear hc hsl hsx hU hvu
  have hx2 : (sx = sl ∧ vu = true ∧ chgT T id unit (chRep T ex) = (U, 0)) ∨ (sx = sl ∧ vu = false ∧ chgT T id unit (chRep T ex) = (tabZ, 1)) ∨ (sx ≠ sl ∧ chgT T id unit (chRep T ex) = (tabZ, 1)) := by
    by_cases hss : sx = sl
    · cases vu with
      | true =>
        rcases hx with ⟨_, hx⟩ | ⟨h0, _⟩
        · exact .inl ⟨hss, rfl, hx⟩
        · rw [if_pos ⟨hss, rfl⟩] at h0; exact absurd rfl h0
      | false =>
        rcases hx with ⟨h0, _⟩ | ⟨_, hx⟩
        · rw [if_neg (by simp)] at h0; cases h0
        · rw [if_neg (by simp)] at hx; exact .inr (.inl ⟨hss, rfl, hx⟩)
    · rcases hx with ⟨h0, _⟩ | ⟨_, hx⟩
      · rw [if_neg (fun h => hss h.1)] at h0; cases h0
      · rw [if_neg (fun h => hss h.1)] at hx; exact .inr (.inr ⟨hss, hx⟩)
  clear hx
  rcases hx2 with ⟨hss, hvv, hx⟩ | ⟨hss, hvv, hx⟩ | ⟨hss, hx⟩
  · rw [hx] at hr
    injection hr with e1 e2
    subst e1; subst e2
    have hbq : ((sl : Int) == (sx : Int)) = true := by rw [hss, beq_iff_eq]
    clear hx hss
    go_enter Tryz.func71, Tryz.ntmps71
    go_wp2_with fail
    refine (HFI.out _ HG0.out _ _ HX.out).mono ?_
    rintro e w1 ⟨rfl, g1⟩
    have HG1 := Lib.hid (HG0.out.trans g1)
    have HZ1 := Lib.hid (HZ0.out.grew g1)
    have HB1 := Lib.hid (HB0.out.grew g1)
    clear g1
    have hkn : (k : Int) < (T.labels.length : Int) := by omega
    have b2 := HB1.out.cell 2
    have hbl1 := HB1.out.lt
    obtain ⟨b, off, B, d, l', rfl, hbl, hxk, hv, hla, c0, c1, c2, c3, c4⟩ := (HTB.out.hold HG1.out).at_ hk
    rw [HLK.out] at hv
    subst hv
    have hgx : Grew w1 (w1.alloc (.cells #[.int .i64 l.id, .int .i64 l.unit, .string l.name, .string l.note, .slice B l.ext.length d] 31)) := (Grew.refl w1).alloc _
    have HLA := Lib.hid (hla.hold hgx)
    have HNL := Lib.hid (Blk.new w1 31 #[.int .i64 l.id, .int .i64 l.unit, .string l.name, .string l.note, .slice B l.ext.length d] rfl)
    have HG2 := Lib.hid (HG1.out.trans hgx)
    have HZ2 := Lib.hid (HZ1.out.grew hgx)
    have HB2 := Lib.hid (HB1.out.grew hgx)
    have HW1 := Lib.hid HG1.out.size
    clear hla hgx hxk
    go_wp2_with fail
    refine (seq_val (A := B) (c := d) (l := l.ext) (n := l.ext.length) rfl (by omega) HLA.out.runs sl HSL.out).mono ?_
    rintro e w3 ⟨As, cs, rfl, g3⟩
    have HG3 := Lib.hid (HG2.out.trans g3)
    have HZ3 := Lib.hid (HZ2.out.grew g3)
    have HB3 := Lib.hid (HB2.out.grew g3)
    have HN3 := Lib.hid (HNL.out.grew g3)
    have HLA3 := Lib.hid (HLA.out.hold g3)
    clear g3 c0 c1 c2 c3 c4 b2
    go_wp2_with fail
    refine (seq_val (A := Ax) (c := cx) (l := ex) (n := ex.length) rfl (by omega) (HXR.out _ HG3.out) sx HSX.out).mono ?_
    rintro e w4 ⟨At, ct, rfl, g4⟩
    have gal : Grew w4 (w4.alloc (.cells #[] 65)) := (Grew.refl w4).alloc _
    have HG4 := Lib.hid ((HG3.out.trans g4).trans gal)
    have HW4 := Lib.hid (HG3.out.trans g4).size
    have HZ4 := Lib.hid ((HZ3.out.grew g4).grew gal)
    have HB4 := Lib.hid ((HB3.out.grew g4).grew gal)
    have HN4 := Lib.hid ((HN3.out.grew g4).grew gal)
    have hn4s := (HN3.out.grew g4).lt
    have hb4s := (HB3.out.grew g4).lt
    have hz4s := (HZ3.out.grew g4).lt
    have HLA4 := Lib.hid ((HLA3.out.hold g4).hold gal)
    have HXE := Lib.hid (HXR.out _ HG4.out)
    have HOE := Lib.hid (show OwnL (w4.alloc (.cells #[] 65)) w4.heap.size 65 2 (.slice (some ⟨w4.heap.size, 0, none⟩) 0 0) [] from OwnL.empty _ _ _ _ (by simp) (by simp))
    clear g4 gal
    go_upto_region 7 with (at_builtin; refine wpList_pushAll (by rfl) _ _ 29 rfl w4.heap.size 65 2 16 _ Tryz.underlying29 info_run rfl (by decide) _ [] (ex.map runC) (by rfl) HOE.out Ax ex.length _ (by rfl) (by rw [List.length_map]) (map_one_len _) HXE.out.2 (map_one_one _) (by simp; omega) (by simp; omega) (by simp) ?_; intro v1 w5 hown1 hgr1 hat1; rw [List.nil_append] at hown1; obtain ⟨A6, c6, rfl, hlc6, hc6, hr6⟩ := own_runsL hown1 HOKX.out; have hF6 := own_far hown1 hn4s rfl; have hg5 := HG4.out.own hgr1 (own_one _ _ _) HW4.out; have hb5 := HB4.out.own hgr1 (own_ne _ _ (by omega)); have hz5 := HZ4.out.own hgr1 (own_ne _ _ (by omega)); have hn5 := HN4.out.own hgr1 (own_ne _ _ (by omega)); have q4 := hn5.cell 4; have qf := hn5.frozen 4; have hql := hn5.lt)
    have HW5 := Lib.hid HW1.out
    have hne1 : ¬ w.heap.size = w1.heap.size := by have := HB1.out.lt; omega
    have hne2 : ¬ w.heap.size + 1 + 1 = w1.heap.size := by have := HZ1.out.lt; omega
    obtain ⟨W, hW⟩ : ∃ W, W = (w5.setCell ⟨w1.heap.size, 4, none⟩ (.slice A6 ex.length c6)) := ⟨_, rfl⟩
    rw [← hW]
    have HG6 := Lib.hid (show Grew w W from by rw [hW]; exact hg5.setCell (p := ⟨w1.heap.size, 4, none⟩) HW1.out _)
    have tu3 := set_turned w5 w1.heap.size 4 (.slice A6 ex.length c6)
    have HB6 := Lib.hid (show Blk W w.heap.size 24 #[.string T.name, .int .i64 T.tracks, .slice (some ⟨b, off, none⟩) T.labels.length c] from by rw [hW]; exact hb5.far (p := ⟨w1.heap.size, 4, none⟩) hne1 _)
    have HZ6 := Lib.hid (show Blk W (w.heap.size + 1 + 1) 24 #[.string ⟨#[]⟩, .int .i64 0, .slice none 0 0] from by rw [hW]; exact hz5.far (p := ⟨w1.heap.size, 4, none⟩) hne2 _)
    have HN6 := Lib.hid (show Blk W w1.heap.size 31 #[.int .i64 l.id, .int .i64 l.unit, .string l.name, .string l.note, .slice A6 ex.length c6] from by rw [hW]; exact hn5.set_ 4 _)
    have HL6 := Lib.hid (show LabAt W A6 c6 { l with ext := ex } from ⟨HLA.out.id0, HLA.out.id1, HLA.out.unit0, HLA.out.unit1, HLA.out.name, HLA.out.note, by
      rw [hW]
      exact runs_turned hr6 tu3 (fun _ b3 o3 e e2 => hF6 b3 o3 e e2), hlc6, hc6⟩)
    clear tu3 hW hr6 hF6 hown1 hgr1 hat1 hg5 hb5 hz5 hn5 q4 qf hql hn4s hb4s hz4s
    have b0 := HB6.out.cell 0
    have b1 := HB6.out.cell 1
    have b2 := HB6.out.cell 2
    have hbl6 := HB6.out.lt
    have q0 := HN6.out.cell 0
    have q1 := HN6.out.cell 1
    have q2 := HN6.out.cell 2
    have q3 := HN6.out.cell 3
    have q4 := HN6.out.cell 4
    have hql := HN6.out.lt
    go_wp2_with fail
    refine (rput_tab _ c xs T _ (HTB.out.hold HG6.out) (by omega) k hk A6 c6 { l with ext := ex } HL6.out U HU.out).mono ?_
    rintro e w9 ⟨A9, c9, ys, rfl, ht9, g9⟩
    have gal : Grew w9 (w9.alloc (.cells #[.string U.name, .int .i64 U.tracks, .slice A9 U.labels.length c9] 24)) := (Grew.refl w9).alloc _
    have HT9 := Lib.hid (ht9.hold gal)
    have HU9 := Lib.hid (Blk.new w9 24 #[.string U.name, .int .i64 U.tracks, .slice A9 U.labels.length c9] rfl)
    have HZ9 := Lib.hid ((HZ6.out.grew g9).grew gal)
    have HG9 := Lib.hid ((HG6.out.trans g9).trans gal)
    clear b0 b1 b2 hbl6 q0 q1 q2 q3 q4 hql gal ht9 g9
    have u0 := HU9.out.cell 0
    have u1 := HU9.out.cell 1
    have u2 := HU9.out.cell 2
    have hul := HU9.out.lt
    go_wp2_with fail
    refine (rvalid_tab A9 c9 ys U _ HT9.out HSU.out _ rfl).mono ?_
    rintro e w10 ⟨rfl, g10⟩
    rw [HVU.out, hvv]
    have HG10 := Lib.hid (HG9.out.trans g10)
    have HZ10 := Lib.hid (HZ9.out.grew g10)
    have HU10 := Lib.hid (HU9.out.grew g10)
    have HT10 := Lib.hid (HT9.out.hold g10)
    clear u0 u1 u2 hul g10
    have z0 := HZ10.out.cell 0
    have z1 := HZ10.out.cell 1
    have z2 := HZ10.out.cell 2
    have f0 := HZ10.out.frozen 0
    have f1 := HZ10.out.frozen 1
    have f2 := HZ10.out.frozen 2
    have hzl := HZ10.out.lt
    have u0 := HU10.out.cell 0
    have u1 := HU10.out.cell 1
    have u2 := HU10.out.cell 2
    have hul := HU10.out.lt
    have HT11 := Lib.hid (fun w11 (ht : Turned (fun x => x = w.heap.size + 1 + 1) w10 w11) => HT10.out.apart HZ10.out ht)
    go_wp2_with fail
    refine bodyPost_ret (by first | (simp [*, results, Tryz.results71, go_sem]; rfl) | simp [*, results, Tryz.results71, go_sem]) rfl ?_
    exact ⟨A9, c9, ys, rfl, HT11.out _ (by (repeat' first | (with_reducible exact Turned.refl _ _) | (with_reducible assumption) | (with_reducible refine Turned.alloc ?_ _) | (with_reducible refine Turned.drew ?_) | (with_reducible refine Turned.drewN ?_ _) | (with_reducible refine Turned.setRow ?_ (by first | (simp; done) | (simp; omega) | omega) _) | (with_reducible refine Turned.setCell ?_ (by first | (simp; done) | (simp; omega) | omega) _) | ((with_reducible apply Turned.andGrew); rotate_left; (with_reducible assumption)) | ((with_reducible apply Turned.trans); rotate_left; (with_reducible assumption)) | fail)), by have hg := HG10.out; (repeat' first | (with_reducible exact Grew.refl _) | (with_reducible assumption) | (with_reducible refine Grew.alloc ?_ _) | (with_reducible refine Grew.drew ?_) | (with_reducible refine Grew.drewN ?_ _) | (with_reducible refine Grew.setRow ?_ (by first | (simp; done) | (simp; omega) | omega) _) | (with_reducible refine Grew.setCell ?_ (by first | (simp; done) | (simp; omega) | omega) _) | ((with_reducible apply Grew.trans); rotate_left; (with_reducible assumption)) | ((with_reducible apply Grew.turn); rotate_left; (with_reducible assumption); (focus (intro i hi; first | omega | (simp at hi; omega)))) | fail)⟩
  · rw [hx] at hr
    injection hr with e1 e2
    subst e1; subst e2
    have hbq : ((sl : Int) == (sx : Int)) = true := by rw [hss, beq_iff_eq]
    clear hx hss
    go_enter Tryz.func71, Tryz.ntmps71
    go_wp2_with fail
    refine (HFI.out _ HG0.out _ _ HX.out).mono ?_
    rintro e w1 ⟨rfl, g1⟩
    have HG1 := Lib.hid (HG0.out.trans g1)
    have HZ1 := Lib.hid (HZ0.out.grew g1)
    have HB1 := Lib.hid (HB0.out.grew g1)
    clear g1
    have hkn : (k : Int) < (T.labels.length : Int) := by omega
    have b2 := HB1.out.cell 2
    have hbl1 := HB1.out.lt
    obtain ⟨b, off, B, d, l', rfl, hbl, hxk, hv, hla, c0, c1, c2, c3, c4⟩ := (HTB.out.hold HG1.out).at_ hk
    rw [HLK.out] at hv
    subst hv
    have hgx : Grew w1 (w1.alloc (.cells #[.int .i64 l.id, .int .i64 l.unit, .string l.name, .string l.note, .slice B l.ext.length d] 31)) := (Grew.refl w1).alloc _
    have HLA := Lib.hid (hla.hold hgx)
    have HNL := Lib.hid (Blk.new w1 31 #[.int .i64 l.id, .int .i64 l.unit, .string l.name, .string l.note, .slice B l.ext.length d] rfl)
    have HG2 := Lib.hid (HG1.out.trans hgx)
    have HZ2 := Lib.hid (HZ1.out.grew hgx)
    have HB2 := Lib.hid (HB1.out.grew hgx)
    have HW1 := Lib.hid HG1.out.size
    clear hla hgx hxk
    go_wp2_with fail
    refine (seq_val (A := B) (c := d) (l := l.ext) (n := l.ext.length) rfl (by omega) HLA.out.runs sl HSL.out).mono ?_
    rintro e w3 ⟨As, cs, rfl, g3⟩
    have HG3 := Lib.hid (HG2.out.trans g3)
    have HZ3 := Lib.hid (HZ2.out.grew g3)
    have HB3 := Lib.hid (HB2.out.grew g3)
    have HN3 := Lib.hid (HNL.out.grew g3)
    have HLA3 := Lib.hid (HLA.out.hold g3)
    clear g3 c0 c1 c2 c3 c4 b2
    go_wp2_with fail
    refine (seq_val (A := Ax) (c := cx) (l := ex) (n := ex.length) rfl (by omega) (HXR.out _ HG3.out) sx HSX.out).mono ?_
    rintro e w4 ⟨At, ct, rfl, g4⟩
    have gal : Grew w4 (w4.alloc (.cells #[] 65)) := (Grew.refl w4).alloc _
    have HG4 := Lib.hid ((HG3.out.trans g4).trans gal)
    have HW4 := Lib.hid (HG3.out.trans g4).size
    have HZ4 := Lib.hid ((HZ3.out.grew g4).grew gal)
    have HB4 := Lib.hid ((HB3.out.grew g4).grew gal)
    have HN4 := Lib.hid ((HN3.out.grew g4).grew gal)
    have hn4s := (HN3.out.grew g4).lt
    have hb4s := (HB3.out.grew g4).lt
    have hz4s := (HZ3.out.grew g4).lt
    have HLA4 := Lib.hid ((HLA3.out.hold g4).hold gal)
    have HXE := Lib.hid (HXR.out _ HG4.out)
    have HOE := Lib.hid (show OwnL (w4.alloc (.cells #[] 65)) w4.heap.size 65 2 (.slice (some ⟨w4.heap.size, 0, none⟩) 0 0) [] from OwnL.empty _ _ _ _ (by simp) (by simp))
    clear g4 gal
    go_upto_region 7 with (at_builtin; refine wpList_pushAll (by rfl) _ _ 29 rfl w4.heap.size 65 2 16 _ Tryz.underlying29 info_run rfl (by decide) _ [] (ex.map runC) (by rfl) HOE.out Ax ex.length _ (by rfl) (by rw [List.length_map]) (map_one_len _) HXE.out.2 (map_one_one _) (by simp; omega) (by simp; omega) (by simp) ?_; intro v1 w5 hown1 hgr1 hat1; rw [List.nil_append] at hown1; obtain ⟨A6, c6, rfl, hlc6, hc6, hr6⟩ := own_runsL hown1 HOKX.out; have hF6 := own_far hown1 hn4s rfl; have hg5 := HG4.out.own hgr1 (own_one _ _ _) HW4.out; have hb5 := HB4.out.own hgr1 (own_ne _ _ (by omega)); have hz5 := HZ4.out.own hgr1 (own_ne _ _ (by omega)); have hn5 := HN4.out.own hgr1 (own_ne _ _ (by omega)); have q4 := hn5.cell 4; have qf := hn5.frozen 4; have hql := hn5.lt)
    have HW5 := Lib.hid HW1.out
    have hne1 : ¬ w.heap.size = w1.heap.size := by have := HB1.out.lt; omega
    have hne2 : ¬ w.heap.size + 1 + 1 = w1.heap.size := by have := HZ1.out.lt; omega
    obtain ⟨W, hW⟩ : ∃ W, W = (w5.setCell ⟨w1.heap.size, 4, none⟩ (.slice A6 ex.length c6)) := ⟨_, rfl⟩
    rw [← hW]
    have HG6 := Lib.hid (show Grew w W from by rw [hW]; exact hg5.setCell (p := ⟨w1.heap.size, 4, none⟩) HW1.out _)
    have tu3 := set_turned w5 w1.heap.size 4 (.slice A6 ex.length c6)
    have HB6 := Lib.hid (show Blk W w.heap.size 24 #[.string T.name, .int .i64 T.tracks, .slice (some ⟨b, off, none⟩) T.labels.length c] from by rw [hW]; exact hb5.far (p := ⟨w1.heap.size, 4, none⟩) hne1 _)
    have HZ6 := Lib.hid (show Blk W (w.heap.size + 1 + 1) 24 #[.string ⟨#[]⟩, .int .i64 0, .slice none 0 0] from by rw [hW]; exact hz5.far (p := ⟨w1.heap.size, 4, none⟩) hne2 _)
    have HN6 := Lib.hid (show Blk W w1.heap.size 31 #[.int .i64 l.id, .int .i64 l.unit, .string l.name, .string l.note, .slice A6 ex.length c6] from by rw [hW]; exact hn5.set_ 4 _)
    have HL6 := Lib.hid (show LabAt W A6 c6 { l with ext := ex } from ⟨HLA.out.id0, HLA.out.id1, HLA.out.unit0, HLA.out.unit1, HLA.out.name, HLA.out.note, by
      rw [hW]
      exact runs_turned hr6 tu3 (fun _ b3 o3 e e2 => hF6 b3 o3 e e2), hlc6, hc6⟩)
    clear tu3 hW hr6 hF6 hown1 hgr1 hat1 hg5 hb5 hz5 hn5 q4 qf hql hn4s hb4s hz4s
    have b0 := HB6.out.cell 0
    have b1 := HB6.out.cell 1
    have b2 := HB6.out.cell 2
    have hbl6 := HB6.out.lt
    have q0 := HN6.out.cell 0
    have q1 := HN6.out.cell 1
    have q2 := HN6.out.cell 2
    have q3 := HN6.out.cell 3
    have q4 := HN6.out.cell 4
    have hql := HN6.out.lt
    go_wp2_with fail
    refine (rput_tab _ c xs T _ (HTB.out.hold HG6.out) (by omega) k hk A6 c6 { l with ext := ex } HL6.out U HU.out).mono ?_
    rintro e w9 ⟨A9, c9, ys, rfl, ht9, g9⟩
    have gal : Grew w9 (w9.alloc (.cells #[.string U.name, .int .i64 U.tracks, .slice A9 U.labels.length c9] 24)) := (Grew.refl w9).alloc _
    have HT9 := Lib.hid (ht9.hold gal)
    have HU9 := Lib.hid (Blk.new w9 24 #[.string U.name, .int .i64 U.tracks, .slice A9 U.labels.length c9] rfl)
    have HZ9 := Lib.hid ((HZ6.out.grew g9).grew gal)
    have HG9 := Lib.hid ((HG6.out.trans g9).trans gal)
    clear b0 b1 b2 hbl6 q0 q1 q2 q3 q4 hql gal ht9 g9
    have u0 := HU9.out.cell 0
    have u1 := HU9.out.cell 1
    have u2 := HU9.out.cell 2
    have hul := HU9.out.lt
    go_wp2_with fail
    refine (rvalid_tab A9 c9 ys U _ HT9.out HSU.out _ rfl).mono ?_
    rintro e w10 ⟨rfl, g10⟩
    rw [HVU.out, hvv]
    have HG10 := Lib.hid (HG9.out.trans g10)
    have HZ10 := Lib.hid (HZ9.out.grew g10)
    have HU10 := Lib.hid (HU9.out.grew g10)
    have HT10 := Lib.hid (HT9.out.hold g10)
    clear u0 u1 u2 hul g10
    have z0 := HZ10.out.cell 0
    have z1 := HZ10.out.cell 1
    have z2 := HZ10.out.cell 2
    have f0 := HZ10.out.frozen 0
    have f1 := HZ10.out.frozen 1
    have f2 := HZ10.out.frozen 2
    have hzl := HZ10.out.lt
    go_wp2_with fail
    refine bodyPost_ret (by first | (simp [*, results, Tryz.results71, go_sem]; rfl) | simp [*, results, Tryz.results71, go_sem]) rfl ?_
    exact ⟨none, 0, [], rfl, TabAt.zero _, by have hg := HG10.out; (repeat' first | (with_reducible exact Grew.refl _) | (with_reducible assumption) | (with_reducible refine Grew.alloc ?_ _) | (with_reducible refine Grew.drew ?_) | (with_reducible refine Grew.drewN ?_ _) | (with_reducible refine Grew.setRow ?_ (by first | (simp; done) | (simp; omega) | omega) _) | (with_reducible refine Grew.setCell ?_ (by first | (simp; done) | (simp; omega) | omega) _) | ((with_reducible apply Grew.trans); rotate_left; (with_reducible assumption)) | ((with_reducible apply Grew.turn); rotate_left; (with_reducible assumption); (focus (intro i hi; first | omega | (simp at hi; omega)))) | fail)⟩
  · rw [hx] at hr
    injection hr with e1 e2
    subst e1; subst e2
    have hbq : ((sl : Int) == (sx : Int)) = false := by rw [beq_eq_false_iff_ne]; omega
    clear hx hss
    go_enter Tryz.func71, Tryz.ntmps71
    go_wp2_with fail
    refine (HFI.out _ HG0.out _ _ HX.out).mono ?_
    rintro e w1 ⟨rfl, g1⟩
    have HG1 := Lib.hid (HG0.out.trans g1)
    have HZ1 := Lib.hid (HZ0.out.grew g1)
    have HB1 := Lib.hid (HB0.out.grew g1)
    clear g1
    have hkn : (k : Int) < (T.labels.length : Int) := by omega
    have b2 := HB1.out.cell 2
    have hbl1 := HB1.out.lt
    obtain ⟨b, off, B, d, l', rfl, hbl, hxk, hv, hla, c0, c1, c2, c3, c4⟩ := (HTB.out.hold HG1.out).at_ hk
    rw [HLK.out] at hv
    subst hv
    have hgx : Grew w1 (w1.alloc (.cells #[.int .i64 l.id, .int .i64 l.unit, .string l.name, .string l.note, .slice B l.ext.length d] 31)) := (Grew.refl w1).alloc _
    have HLA := Lib.hid (hla.hold hgx)
    have HNL := Lib.hid (Blk.new w1 31 #[.int .i64 l.id, .int .i64 l.unit, .string l.name, .string l.note, .slice B l.ext.length d] rfl)
    have HG2 := Lib.hid (HG1.out.trans hgx)
    have HZ2 := Lib.hid (HZ1.out.grew hgx)
    have HB2 := Lib.hid (HB1.out.grew hgx)
    have HW1 := Lib.hid HG1.out.size
    clear hla hgx hxk
    go_wp2_with fail
    refine (seq_val (A := B) (c := d) (l := l.ext) (n := l.ext.length) rfl (by omega) HLA.out.runs sl HSL.out).mono ?_
    rintro e w3 ⟨As, cs, rfl, g3⟩
    have HG3 := Lib.hid (HG2.out.trans g3)
    have HZ3 := Lib.hid (HZ2.out.grew g3)
    have HB3 := Lib.hid (HB2.out.grew g3)
    have HN3 := Lib.hid (HNL.out.grew g3)
    have HLA3 := Lib.hid (HLA.out.hold g3)
    clear g3 c0 c1 c2 c3 c4 b2
    go_wp2_with fail
    refine (seq_val (A := Ax) (c := cx) (l := ex) (n := ex.length) rfl (by omega) (HXR.out _ HG3.out) sx HSX.out).mono ?_
    rintro e w4 ⟨At, ct, rfl, g4⟩
    have gal : Grew w4 (w4.alloc (.cells #[] 65)) := (Grew.refl w4).alloc _
    have HG4 := Lib.hid ((HG3.out.trans g4).trans gal)
    have HW4 := Lib.hid (HG3.out.trans g4).size
    have HZ4 := Lib.hid ((HZ3.out.grew g4).grew gal)
    have HB4 := Lib.hid ((HB3.out.grew g4).grew gal)
    have HN4 := Lib.hid ((HN3.out.grew g4).grew gal)
    have hn4s := (HN3.out.grew g4).lt
    have hb4s := (HB3.out.grew g4).lt
    have hz4s := (HZ3.out.grew g4).lt
    have HLA4 := Lib.hid ((HLA3.out.hold g4).hold gal)
    have HXE := Lib.hid (HXR.out _ HG4.out)
    have HOE := Lib.hid (show OwnL (w4.alloc (.cells #[] 65)) w4.heap.size 65 2 (.slice (some ⟨w4.heap.size, 0, none⟩) 0 0) [] from OwnL.empty _ _ _ _ (by simp) (by simp))
    clear g4 gal
    go_upto_region 7 with (at_builtin; refine wpList_pushAll (by rfl) _ _ 29 rfl w4.heap.size 65 2 16 _ Tryz.underlying29 info_run rfl (by decide) _ [] (ex.map runC) (by rfl) HOE.out Ax ex.length _ (by rfl) (by rw [List.length_map]) (map_one_len _) HXE.out.2 (map_one_one _) (by simp; omega) (by simp; omega) (by simp) ?_; intro v1 w5 hown1 hgr1 hat1; rw [List.nil_append] at hown1; obtain ⟨A6, c6, rfl, hlc6, hc6, hr6⟩ := own_runsL hown1 HOKX.out; have hF6 := own_far hown1 hn4s rfl; have hg5 := HG4.out.own hgr1 (own_one _ _ _) HW4.out; have hb5 := HB4.out.own hgr1 (own_ne _ _ (by omega)); have hz5 := HZ4.out.own hgr1 (own_ne _ _ (by omega)); have hn5 := HN4.out.own hgr1 (own_ne _ _ (by omega)); have q4 := hn5.cell 4; have qf := hn5.frozen 4; have hql := hn5.lt)
    have HW5 := Lib.hid HW1.out
    have hne1 : ¬ w.heap.size = w1.heap.size := by have := HB1.out.lt; omega
    have hne2 : ¬ w.heap.size + 1 + 1 = w1.heap.size := by have := HZ1.out.lt; omega
    obtain ⟨W, hW⟩ : ∃ W, W = (w5.setCell ⟨w1.heap.size, 4, none⟩ (.slice A6 ex.length c6)) := ⟨_, rfl⟩
    rw [← hW]
    have HG6 := Lib.hid (show Grew w W from by rw [hW]; exact hg5.setCell (p := ⟨w1.heap.size, 4, none⟩) HW1.out _)
    have tu3 := set_turned w5 w1.heap.size 4 (.slice A6 ex.length c6)
    have HB6 := Lib.hid (show Blk W w.heap.size 24 #[.string T.name, .int .i64 T.tracks, .slice (some ⟨b, off, none⟩) T.labels.length c] from by rw [hW]; exact hb5.far (p := ⟨w1.heap.size, 4, none⟩) hne1 _)
    have HZ6 := Lib.hid (show Blk W (w.heap.size + 1 + 1) 24 #[.string ⟨#[]⟩, .int .i64 0, .slice none 0 0] from by rw [hW]; exact hz5.far (p := ⟨w1.heap.size, 4, none⟩) hne2 _)
    have HN6 := Lib.hid (show Blk W w1.heap.size 31 #[.int .i64 l.id, .int .i64 l.unit, .string l.name, .string l.note, .slice A6 ex.length c6] from by rw [hW]; exact hn5.set_ 4 _)
    have HL6 := Lib.hid (show LabAt W A6 c6 { l with ext := ex } from ⟨HLA.out.id0, HLA.out.id1, HLA.out.unit0, HLA.out.unit1, HLA.out.name, HLA.out.note, by
      rw [hW]
      exact runs_turned hr6 tu3 (fun _ b3 o3 e e2 => hF6 b3 o3 e e2), hlc6, hc6⟩)
    clear tu3 hW hr6 hF6 hown1 hgr1 hat1 hg5 hb5 hz5 hn5 q4 qf hql hn4s hb4s hz4s
    have b0 := HB6.out.cell 0
    have b1 := HB6.out.cell 1
    have b2 := HB6.out.cell 2
    have hbl6 := HB6.out.lt
    have q0 := HN6.out.cell 0
    have q1 := HN6.out.cell 1
    have q2 := HN6.out.cell 2
    have q3 := HN6.out.cell 3
    have q4 := HN6.out.cell 4
    have hql := HN6.out.lt
    go_wp2_with fail
    refine (rput_tab _ c xs T _ (HTB.out.hold HG6.out) (by omega) k hk A6 c6 { l with ext := ex } HL6.out U HU.out).mono ?_
    rintro e w9 ⟨A9, c9, ys, rfl, ht9, g9⟩
    have gal : Grew w9 (w9.alloc (.cells #[.string U.name, .int .i64 U.tracks, .slice A9 U.labels.length c9] 24)) := (Grew.refl w9).alloc _
    have HT9 := Lib.hid (ht9.hold gal)
    have HU9 := Lib.hid (Blk.new w9 24 #[.string U.name, .int .i64 U.tracks, .slice A9 U.labels.length c9] rfl)
    have HZ9 := Lib.hid ((HZ6.out.grew g9).grew gal)
    have HG9 := Lib.hid ((HG6.out.trans g9).trans gal)
    clear b0 b1 b2 hbl6 q0 q1 q2 q3 q4 hql gal ht9 g9
    have z0 := HZ9.out.cell 0
    have z1 := HZ9.out.cell 1
    have z2 := HZ9.out.cell 2
    have f0 := HZ9.out.frozen 0
    have f1 := HZ9.out.frozen 1
    have f2 := HZ9.out.frozen 2
    have hzl := HZ9.out.lt
    go_wp2_with fail
    refine bodyPost_ret (by first | (simp [*, results, Tryz.results71, go_sem]; rfl) | simp [*, results, Tryz.results71, go_sem]) rfl ?_
    exact ⟨none, 0, [], rfl, TabAt.zero _, by have hg := HG9.out; (repeat' first | (with_reducible exact Grew.refl _) | (with_reducible assumption) | (with_reducible refine Grew.alloc ?_ _) | (with_reducible refine Grew.drew ?_) | (with_reducible refine Grew.drewN ?_ _) | (with_reducible refine Grew.setRow ?_ (by first | (simp; done) | (simp; omega) | omega) _) | (with_reducible refine Grew.setCell ?_ (by first | (simp; done) | (simp; omega) | omega) _) | ((with_reducible apply Grew.trans); rotate_left; (with_reducible assumption)) | ((with_reducible apply Grew.turn); rotate_left; (with_reducible assumption); (focus (intro i hi; first | omega | (simp at hi; omega)))) | fail)⟩
end
end Go.Proofs.YtnlaogneceanoaaGreat
