/- Chapter 8: Create. Chapter 8: Sector, on both sides; awake's tables. Chapter 8: awake. Chapter 8: a table as an argument; Few. Chapter 8: the reference's New and track. Chapter 8: Texts. Chapter 7: the reference's Decode. -/
import Derived.Test.YtnlaogneceanoaaGreatCxE
import Derived.Test.YtnlaogneceanoaaGreatCxF
import Derived.Test.YtnlaogneceanoaaGreatCxH
import Derived.Test.YtnlaogneceanoaaGreatCxI
import Derived.Test.YtnlaogneceanoaaGreatCxJ
namespace Go.Proofs.YtnlaogneceanoaaGreat
set_option linter.unusedVariables false
set_option linter.unusedSimpArgs false
set_option linter.unusedSectionVars false
open Go.RowKit
attribute [local go_sem ↓] Go.wp_at_zero Go.wp_at_succ
def okNew (id unit : Int) (nm nt : ByteArray) (n : Int) : Prop := 1 ≤ id ∧ id ≤ 1099511627776 ∧ 1 ≤ unit ∧ unit ≤ 1099511627776 ∧ nm.size ≤ 31 ∧ nt.size ≤ 400 ∧ 1 ≤ n
instance (id unit : Int) (nm nt : ByteArray) (n : Int) : Decidable (okNew id unit nm nt n) := by unfold okNew; exact inferInstance
def createT (T : Tab) (id unit : Int) (nm nt : ByteArray) (n : Int) : Tab × Int :=
  if validT T = true ∧ okNew id unit nm nt n then
    if T.labels.any (tentL id) = true then (tabZ, 5)
    else if idxP emL T.labels < 0 then (tabZ, 8)
    else if (allocS (memS (freeT T)) n 16).2 = 0 then ({ T with labels := T.labels.set (idxP emL T.labels).toNat ⟨id, unit, nm, nt, ints (allocS (memS (freeT T)) n 16).1⟩ }, 0)
    else (tabZ, 14)
  else (tabZ, 1)
section
variable (A : Option Addr) (c : Nat) (xs : List LabE) (T : Tab) (id unit : Int) (w : World)
set_option maxRecDepth 100000 in
set_option maxHeartbeats 16000000 in
theorem create_tab (h : TabAt w A c xs T) (hs : SmallT T) (nm nt : ByteArray) (hns : nm.size ≤ 9223372036854775807) (hts : nt.size ≤ 9223372036854775807) (n : Int) (n0 : -9223372036854775808 ≤ n) (n1 : n ≤ 9223372036854775807) (T' : Tab) (er : Int) (hr : createT T id unit nm nt n = (T', er)) :
    Calls Tryz.prog 34 #[.agg #[.string T.name, .int .i64 T.tracks, .slice A T.labels.length c], .agg #[.int .i64 id, .int .i64 unit], .string nm, .string nt, .int .i64 n] w (TabR w T' er) := by
  have hg0 := ((((Grew.refl w).alloc (.cells #[.string T.name, .int .i64 T.tracks, .slice A T.labels.length c] 24)).alloc (.cells #[.int .i64 id, .int .i64 unit] 26))).alloc (.cells #[.string ⟨#[]⟩, .int .i64 0, .slice none 0 0] 24)
  have hb0 := ((Blk.new w 24 #[.string T.name, .int .i64 T.tracks, .slice A T.labels.length c] rfl).alloc (.cells #[.int .i64 id, .int .i64 unit] 26)).alloc (.cells #[.string ⟨#[]⟩, .int .i64 0, .slice none 0 0] 24)
  have hr0 := (Blk.new (w.alloc (.cells #[.string T.name, .int .i64 T.tracks, .slice A T.labels.length c] 24)) 26 #[.int .i64 id, .int .i64 unit] (n := w.heap.size + 1) (by simp)).alloc (.cells #[.string ⟨#[]⟩, .int .i64 0, .slice none 0 0] 24)
  have hz0 := Blk.new ((w.alloc (.cells #[.string T.name, .int .i64 T.tracks, .slice A T.labels.length c] 24)).alloc (.cells #[.int .i64 id, .int .i64 unit] 26)) 24 #[.string ⟨#[]⟩, .int .i64 0, .slice none 0 0] (n := w.heap.size + 1 + 1) (by simp)
  have HV := Lib.hid (valid_tab A c xs T _ (h.hold hg0) hs _ rfl)
  have HTB := Lib.hid h
  have HS := Lib.hid hs
  have HG0 := Lib.hid hg0
  have HB0 := Lib.hid hb0
  have HRF := Lib.hid hr0
  have HZ0 := Lib.hid hz0
  clear h hs hg0 hb0 hr0 hz0
  cases hv : validT T with
  | false =>
    have hx : createT T id unit nm nt n = (tabZ, 1) := by unfold createT; rw [if_neg (fun h => by rw [hv] at h; cases h.1)]
    rw [hx] at hr
    injection hr with e1 e2
    subst e1; subst e2
    have HVF := Lib.hid hv
    clear hv hx
    go_enter Tryz.func34, Tryz.ntmps34
    go_wp2_with fail
    refine HV.out.mono ?_
    rintro e w1 ⟨rfl, g1⟩
    rw [HVF.out]
    have hr1 := HRF.out.grew g1
    have r0 := hr1.cell 0
    have r1 := hr1.cell 1
    have hrl := hr1.lt
    have hz1 := HZ0.out.grew g1
    have hzl := hz1.lt
    have z0 := hz1.cell 0
    have z1 := hz1.cell 1
    have z2 := hz1.cell 2
    have f0 := hz1.frozen 0
    have f1 := hz1.frozen 1
    have f2 := hz1.frozen 2
    have hg1 := HG0.out.trans g1
    clear hz1 hr1 g1
    go_wp2_with fail
    refine bodyPost_ret (by first | (simp [*, results, Tryz.results34, go_sem]; rfl) | simp [*, results, Tryz.results34, go_sem]) rfl ?_
    exact ⟨none, 0, [], rfl, TabAt.zero _, by (repeat' first | (with_reducible exact Grew.refl _) | (with_reducible assumption) | (with_reducible refine Grew.alloc ?_ _) | (with_reducible refine Grew.drew ?_) | (with_reducible refine Grew.drewN ?_ _) | (with_reducible refine Grew.setRow ?_ (by first | (simp; done) | (simp; omega) | omega) _) | (with_reducible refine Grew.setCell ?_ (by first | (simp; done) | (simp; omega) | omega) _) | ((with_reducible apply Grew.trans); rotate_left; (with_reducible assumption)) | ((with_reducible apply Grew.turn); rotate_left; (with_reducible assumption); (focus (intro i hi; first | omega | (simp at hi; omega)))) | fail)⟩
  | true =>
  have HX1 := Lib.hid (show ¬ okNew id unit nm nt n → createT T id unit nm nt n = (tabZ, 1) from fun hn => by unfold createT; rw [if_neg (fun h => hn h.2)])
  have HX2 := Lib.hid (show okNew id unit nm nt n → createT T id unit nm nt n = (if T.labels.any (tentL id) = true then (tabZ, 5) else if idxP emL T.labels < 0 then (tabZ, 8) else if (allocS (memS (freeT T)) n 16).2 = 0 then ({ T with labels := T.labels.set (idxP emL T.labels).toNat ⟨id, unit, nm, nt, ints (allocS (memS (freeT T)) n 16).1⟩ }, 0) else (tabZ, 14)) from fun hn => by unfold createT; rw [if_pos ⟨hv, hn⟩])
  have HVF := Lib.hid hv
  clear hv
  by_cases a1 : 1 ≤ id
  rotate_left
  · have HE := Lib.hid (HX1.out (fun hc => a1 hc.1))
    rw [HE.out] at hr
    injection hr with e1 e2
    subst e1; subst e2
    go_enter Tryz.func34, Tryz.ntmps34
    go_wp2_with fail
    refine HV.out.mono ?_
    rintro e w1 ⟨rfl, g1⟩
    rw [HVF.out]
    have hr1 := HRF.out.grew g1
    have r0 := hr1.cell 0
    have r1 := hr1.cell 1
    have hrl := hr1.lt
    have hz1 := HZ0.out.grew g1
    have hzl := hz1.lt
    have z0 := hz1.cell 0
    have z1 := hz1.cell 1
    have z2 := hz1.cell 2
    have f0 := hz1.frozen 0
    have f1 := hz1.frozen 1
    have f2 := hz1.frozen 2
    have hg1 := HG0.out.trans g1
    clear hz1 hr1 g1
    go_wp2_with fail
    refine bodyPost_ret (by first | (simp [*, results, Tryz.results34, go_sem]; rfl) | simp [*, results, Tryz.results34, go_sem]) rfl ?_
    exact ⟨none, 0, [], rfl, TabAt.zero _, by (repeat' first | (with_reducible exact Grew.refl _) | (with_reducible assumption) | (with_reducible refine Grew.alloc ?_ _) | (with_reducible refine Grew.drew ?_) | (with_reducible refine Grew.drewN ?_ _) | (with_reducible refine Grew.setRow ?_ (by first | (simp; done) | (simp; omega) | omega) _) | (with_reducible refine Grew.setCell ?_ (by first | (simp; done) | (simp; omega) | omega) _) | ((with_reducible apply Grew.trans); rotate_left; (with_reducible assumption)) | ((with_reducible apply Grew.turn); rotate_left; (with_reducible assumption); (focus (intro i hi; first | omega | (simp at hi; omega)))) | fail)⟩
  by_cases a2 : id ≤ 1099511627776
  rotate_left
  · have HE := Lib.hid (HX1.out (fun hc => a2 hc.2.1))
    rw [HE.out] at hr
    injection hr with e1 e2
    subst e1; subst e2
    go_enter Tryz.func34, Tryz.ntmps34
    go_wp2_with fail
    refine HV.out.mono ?_
    rintro e w1 ⟨rfl, g1⟩
    rw [HVF.out]
    have hr1 := HRF.out.grew g1
    have r0 := hr1.cell 0
    have r1 := hr1.cell 1
    have hrl := hr1.lt
    have hz1 := HZ0.out.grew g1
    have hzl := hz1.lt
    have z0 := hz1.cell 0
    have z1 := hz1.cell 1
    have z2 := hz1.cell 2
    have f0 := hz1.frozen 0
    have f1 := hz1.frozen 1
    have f2 := hz1.frozen 2
    have hg1 := HG0.out.trans g1
    clear hz1 hr1 g1
    go_wp2_with fail
    refine bodyPost_ret (by first | (simp [*, results, Tryz.results34, go_sem]; rfl) | simp [*, results, Tryz.results34, go_sem]) rfl ?_
    exact ⟨none, 0, [], rfl, TabAt.zero _, by (repeat' first | (with_reducible exact Grew.refl _) | (with_reducible assumption) | (with_reducible refine Grew.alloc ?_ _) | (with_reducible refine Grew.drew ?_) | (with_reducible refine Grew.drewN ?_ _) | (with_reducible refine Grew.setRow ?_ (by first | (simp; done) | (simp; omega) | omega) _) | (with_reducible refine Grew.setCell ?_ (by first | (simp; done) | (simp; omega) | omega) _) | ((with_reducible apply Grew.trans); rotate_left; (with_reducible assumption)) | ((with_reducible apply Grew.turn); rotate_left; (with_reducible assumption); (focus (intro i hi; first | omega | (simp at hi; omega)))) | fail)⟩
  by_cases a3 : 1 ≤ unit
  rotate_left
  · have HE := Lib.hid (HX1.out (fun hc => a3 hc.2.2.1))
    rw [HE.out] at hr
    injection hr with e1 e2
    subst e1; subst e2
    go_enter Tryz.func34, Tryz.ntmps34
    go_wp2_with fail
    refine HV.out.mono ?_
    rintro e w1 ⟨rfl, g1⟩
    rw [HVF.out]
    have hr1 := HRF.out.grew g1
    have r0 := hr1.cell 0
    have r1 := hr1.cell 1
    have hrl := hr1.lt
    have hz1 := HZ0.out.grew g1
    have hzl := hz1.lt
    have z0 := hz1.cell 0
    have z1 := hz1.cell 1
    have z2 := hz1.cell 2
    have f0 := hz1.frozen 0
    have f1 := hz1.frozen 1
    have f2 := hz1.frozen 2
    have hg1 := HG0.out.trans g1
    clear hz1 hr1 g1
    go_wp2_with fail
    refine bodyPost_ret (by first | (simp [*, results, Tryz.results34, go_sem]; rfl) | simp [*, results, Tryz.results34, go_sem]) rfl ?_
    exact ⟨none, 0, [], rfl, TabAt.zero _, by (repeat' first | (with_reducible exact Grew.refl _) | (with_reducible assumption) | (with_reducible refine Grew.alloc ?_ _) | (with_reducible refine Grew.drew ?_) | (with_reducible refine Grew.drewN ?_ _) | (with_reducible refine Grew.setRow ?_ (by first | (simp; done) | (simp; omega) | omega) _) | (with_reducible refine Grew.setCell ?_ (by first | (simp; done) | (simp; omega) | omega) _) | ((with_reducible apply Grew.trans); rotate_left; (with_reducible assumption)) | ((with_reducible apply Grew.turn); rotate_left; (with_reducible assumption); (focus (intro i hi; first | omega | (simp at hi; omega)))) | fail)⟩
  by_cases a4 : unit ≤ 1099511627776
  rotate_left
  · have HE := Lib.hid (HX1.out (fun hc => a4 hc.2.2.2.1))
    rw [HE.out] at hr
    injection hr with e1 e2
    subst e1; subst e2
    go_enter Tryz.func34, Tryz.ntmps34
    go_wp2_with fail
    refine HV.out.mono ?_
    rintro e w1 ⟨rfl, g1⟩
    rw [HVF.out]
    have hr1 := HRF.out.grew g1
    have r0 := hr1.cell 0
    have r1 := hr1.cell 1
    have hrl := hr1.lt
    have hz1 := HZ0.out.grew g1
    have hzl := hz1.lt
    have z0 := hz1.cell 0
    have z1 := hz1.cell 1
    have z2 := hz1.cell 2
    have f0 := hz1.frozen 0
    have f1 := hz1.frozen 1
    have f2 := hz1.frozen 2
    have hg1 := HG0.out.trans g1
    clear hz1 hr1 g1
    go_wp2_with fail
    refine bodyPost_ret (by first | (simp [*, results, Tryz.results34, go_sem]; rfl) | simp [*, results, Tryz.results34, go_sem]) rfl ?_
    exact ⟨none, 0, [], rfl, TabAt.zero _, by (repeat' first | (with_reducible exact Grew.refl _) | (with_reducible assumption) | (with_reducible refine Grew.alloc ?_ _) | (with_reducible refine Grew.drew ?_) | (with_reducible refine Grew.drewN ?_ _) | (with_reducible refine Grew.setRow ?_ (by first | (simp; done) | (simp; omega) | omega) _) | (with_reducible refine Grew.setCell ?_ (by first | (simp; done) | (simp; omega) | omega) _) | ((with_reducible apply Grew.trans); rotate_left; (with_reducible assumption)) | ((with_reducible apply Grew.turn); rotate_left; (with_reducible assumption); (focus (intro i hi; first | omega | (simp at hi; omega)))) | fail)⟩
  by_cases a5 : nm.size ≤ 31
  rotate_left
  · have HE := Lib.hid (HX1.out (fun hc => a5 hc.2.2.2.2.1))
    have a5i : ¬ (nm.size : Int) ≤ 31 := by omega
    rw [HE.out] at hr
    injection hr with e1 e2
    subst e1; subst e2
    go_enter Tryz.func34, Tryz.ntmps34
    go_wp2_with fail
    refine HV.out.mono ?_
    rintro e w1 ⟨rfl, g1⟩
    rw [HVF.out]
    have hr1 := HRF.out.grew g1
    have r0 := hr1.cell 0
    have r1 := hr1.cell 1
    have hrl := hr1.lt
    have hz1 := HZ0.out.grew g1
    have hzl := hz1.lt
    have z0 := hz1.cell 0
    have z1 := hz1.cell 1
    have z2 := hz1.cell 2
    have f0 := hz1.frozen 0
    have f1 := hz1.frozen 1
    have f2 := hz1.frozen 2
    have hg1 := HG0.out.trans g1
    clear hz1 hr1 g1
    go_wp2_with fail
    refine bodyPost_ret (by first | (simp [*, results, Tryz.results34, go_sem]; rfl) | simp [*, results, Tryz.results34, go_sem]) rfl ?_
    exact ⟨none, 0, [], rfl, TabAt.zero _, by (repeat' first | (with_reducible exact Grew.refl _) | (with_reducible assumption) | (with_reducible refine Grew.alloc ?_ _) | (with_reducible refine Grew.drew ?_) | (with_reducible refine Grew.drewN ?_ _) | (with_reducible refine Grew.setRow ?_ (by first | (simp; done) | (simp; omega) | omega) _) | (with_reducible refine Grew.setCell ?_ (by first | (simp; done) | (simp; omega) | omega) _) | ((with_reducible apply Grew.trans); rotate_left; (with_reducible assumption)) | ((with_reducible apply Grew.turn); rotate_left; (with_reducible assumption); (focus (intro i hi; first | omega | (simp at hi; omega)))) | fail)⟩
  have a5i : (nm.size : Int) ≤ 31 := by omega
  by_cases a6 : nt.size ≤ 400
  rotate_left
  · have HE := Lib.hid (HX1.out (fun hc => a6 hc.2.2.2.2.2.1))
    have a6i : ¬ (nt.size : Int) ≤ 400 := by omega
    rw [HE.out] at hr
    injection hr with e1 e2
    subst e1; subst e2
    go_enter Tryz.func34, Tryz.ntmps34
    go_wp2_with fail
    refine HV.out.mono ?_
    rintro e w1 ⟨rfl, g1⟩
    rw [HVF.out]
    have hr1 := HRF.out.grew g1
    have r0 := hr1.cell 0
    have r1 := hr1.cell 1
    have hrl := hr1.lt
    have hz1 := HZ0.out.grew g1
    have hzl := hz1.lt
    have z0 := hz1.cell 0
    have z1 := hz1.cell 1
    have z2 := hz1.cell 2
    have f0 := hz1.frozen 0
    have f1 := hz1.frozen 1
    have f2 := hz1.frozen 2
    have hg1 := HG0.out.trans g1
    clear hz1 hr1 g1
    go_wp2_with fail
    refine bodyPost_ret (by first | (simp [*, results, Tryz.results34, go_sem]; rfl) | simp [*, results, Tryz.results34, go_sem]) rfl ?_
    exact ⟨none, 0, [], rfl, TabAt.zero _, by (repeat' first | (with_reducible exact Grew.refl _) | (with_reducible assumption) | (with_reducible refine Grew.alloc ?_ _) | (with_reducible refine Grew.drew ?_) | (with_reducible refine Grew.drewN ?_ _) | (with_reducible refine Grew.setRow ?_ (by first | (simp; done) | (simp; omega) | omega) _) | (with_reducible refine Grew.setCell ?_ (by first | (simp; done) | (simp; omega) | omega) _) | ((with_reducible apply Grew.trans); rotate_left; (with_reducible assumption)) | ((with_reducible apply Grew.turn); rotate_left; (with_reducible assumption); (focus (intro i hi; first | omega | (simp at hi; omega)))) | fail)⟩
  have a6i : (nt.size : Int) ≤ 400 := by omega
  by_cases a7 : 1 ≤ n
  rotate_left
  · have HE := Lib.hid (HX1.out (fun hc => a7 hc.2.2.2.2.2.2))
    rw [HE.out] at hr
    injection hr with e1 e2
    subst e1; subst e2
    go_enter Tryz.func34, Tryz.ntmps34
    go_wp2_with fail
    refine HV.out.mono ?_
    rintro e w1 ⟨rfl, g1⟩
    rw [HVF.out]
    have hr1 := HRF.out.grew g1
    have r0 := hr1.cell 0
    have r1 := hr1.cell 1
    have hrl := hr1.lt
    have hz1 := HZ0.out.grew g1
    have hzl := hz1.lt
    have z0 := hz1.cell 0
    have z1 := hz1.cell 1
    have z2 := hz1.cell 2
    have f0 := hz1.frozen 0
    have f1 := hz1.frozen 1
    have f2 := hz1.frozen 2
    have hg1 := HG0.out.trans g1
    clear hz1 hr1 g1
    go_wp2_with fail
    refine bodyPost_ret (by first | (simp [*, results, Tryz.results34, go_sem]; rfl) | simp [*, results, Tryz.results34, go_sem]) rfl ?_
    exact ⟨none, 0, [], rfl, TabAt.zero _, by (repeat' first | (with_reducible exact Grew.refl _) | (with_reducible assumption) | (with_reducible refine Grew.alloc ?_ _) | (with_reducible refine Grew.drew ?_) | (with_reducible refine Grew.drewN ?_ _) | (with_reducible refine Grew.setRow ?_ (by first | (simp; done) | (simp; omega) | omega) _) | (with_reducible refine Grew.setCell ?_ (by first | (simp; done) | (simp; omega) | omega) _) | ((with_reducible apply Grew.trans); rotate_left; (with_reducible assumption)) | ((with_reducible apply Grew.turn); rotate_left; (with_reducible assumption); (focus (intro i hi; first | omega | (simp at hi; omega)))) | fail)⟩
  have d1 : decide (id < 1) = false := decide_eq_false (by omega)
  have d2 : decide (1099511627776 < id) = false := decide_eq_false (by omega)
  have d3 : decide (unit < 1) = false := decide_eq_false (by omega)
  have d4 : decide (1099511627776 < unit) = false := decide_eq_false (by omega)
  have d5 : decide (31 < (nm.size : Int)) = false := decide_eq_false (by omega)
  have d6 : decide (400 < (nt.size : Int)) = false := decide_eq_false (by omega)
  have d7 : decide (n < 1) = false := decide_eq_false (by omega)
  rw [HX2.out ⟨a1, a2, a3, a4, a5, a6, a7⟩] at hr
  obtain ⟨te, hte⟩ : ∃ te, T.labels.any (tentL id) = te := ⟨_, rfl⟩
  rw [hte] at hr
  have HTE := Lib.hid hte
  clear hte
  cases te with
  | true =>
    rw [if_pos rfl] at hr
    injection hr with e1 e2
    subst e1; subst e2
    go_enter Tryz.func34, Tryz.ntmps34
    go_wp2_with fail
    refine HV.out.mono ?_
    rintro e w1 ⟨rfl, g1⟩
    rw [HVF.out]
    have hr1 := HRF.out.grew g1
    have r0 := hr1.cell 0
    have r1 := hr1.cell 1
    have hrl := hr1.lt
    have hz1 := HZ0.out.grew g1
    have hzl := hz1.lt
    have HG1 := Lib.hid (HG0.out.trans g1)
    have HB1 := Lib.hid (HB0.out.grew g1)
    have HR1 := Lib.hid hr1
    have HZ1 := Lib.hid hz1
    have b2 := HB1.out.cell 2
    have hbl := HB1.out.lt
    clear hz1 hr1 g1
    go_wp2_with fail
    refine (hasTent_any A c xs T (w.heap.size + 1) id unit w1 (HTB.out.hold HG1.out) HS.out HR1.out _ rfl).mono ?_
    rintro e w2 ⟨rfl, g2⟩
    rw [HTE.out]
    have hz1 := HZ1.out.grew g2
    have hzl2 := hz1.lt
    have z0 := hz1.cell 0
    have z1 := hz1.cell 1
    have z2 := hz1.cell 2
    have f0 := hz1.frozen 0
    have f1 := hz1.frozen 1
    have f2 := hz1.frozen 2
    have hg1 := HG1.out.trans g2
    clear hz1 g2
    go_wp2_with fail
    refine bodyPost_ret (by first | (simp [*, results, Tryz.results34, go_sem]; rfl) | simp [*, results, Tryz.results34, go_sem]) rfl ?_
    exact ⟨none, 0, [], rfl, TabAt.zero _, by (repeat' first | (with_reducible exact Grew.refl _) | (with_reducible assumption) | (with_reducible refine Grew.alloc ?_ _) | (with_reducible refine Grew.drew ?_) | (with_reducible refine Grew.drewN ?_ _) | (with_reducible refine Grew.setRow ?_ (by first | (simp; done) | (simp; omega) | omega) _) | (with_reducible refine Grew.setCell ?_ (by first | (simp; done) | (simp; omega) | omega) _) | ((with_reducible apply Grew.trans); rotate_left; (with_reducible assumption)) | ((with_reducible apply Grew.turn); rotate_left; (with_reducible assumption); (focus (intro i hi; first | omega | (simp at hi; omega)))) | fail)⟩
  | false =>
  rw [if_neg (by simp)] at hr
  rcases idxP_cases emL T.labels with ⟨k, hk, hi, -, -⟩ | ⟨hi, -⟩
  rotate_left
  · rw [hi, if_pos (by omega)] at hr
    injection hr with e1 e2
    subst e1; subst e2
    have HIE := Lib.hid hi
    clear hi
    go_enter Tryz.func34, Tryz.ntmps34
    go_wp2_with fail
    refine HV.out.mono ?_
    rintro e w1 ⟨rfl, g1⟩
    rw [HVF.out]
    have hr1 := HRF.out.grew g1
    have r0 := hr1.cell 0
    have r1 := hr1.cell 1
    have hrl := hr1.lt
    have hz1 := HZ0.out.grew g1
    have hzl := hz1.lt
    have HG1 := Lib.hid (HG0.out.trans g1)
    have HB1 := Lib.hid (HB0.out.grew g1)
    have HR1 := Lib.hid hr1
    have HZ1 := Lib.hid hz1
    have b2 := HB1.out.cell 2
    have hbl := HB1.out.lt
    clear hz1 hr1 g1
    go_wp2_with fail
    refine (hasTent_any A c xs T (w.heap.size + 1) id unit w1 (HTB.out.hold HG1.out) HS.out HR1.out _ rfl).mono ?_
    rintro e w2 ⟨rfl, g2⟩
    rw [HTE.out]
    have HG2 := Lib.hid (HG1.out.trans g2)
    have HB2 := Lib.hid (HB1.out.grew g2)
    have HR2 := Lib.hid (HR1.out.grew g2)
    have HZ2 := Lib.hid (HZ1.out.grew g2)
    clear b2 hbl r0 r1 hrl hzl g2
    have b2 := HB2.out.cell 2
    have hbl := HB2.out.lt
    go_wp2_with fail
    refine (find_empty A c xs T (w.heap.size + 1) id unit w2 (HTB.out.hold HG2.out) HS.out HR2.out _ rfl).mono ?_
    rintro e w3 ⟨rfl, g3⟩
    rw [HIE.out]
    have hz1 := HZ2.out.grew g3
    have hzl2 := hz1.lt
    have z0 := hz1.cell 0
    have z1 := hz1.cell 1
    have z2 := hz1.cell 2
    have f0 := hz1.frozen 0
    have f1 := hz1.frozen 1
    have f2 := hz1.frozen 2
    have hg1 := HG2.out.trans g3
    clear hz1 g3
    go_wp2_with fail
    refine bodyPost_ret (by first | (simp [*, results, Tryz.results34, go_sem]; rfl) | simp [*, results, Tryz.results34, go_sem]) rfl ?_
    exact ⟨none, 0, [], rfl, TabAt.zero _, by (repeat' first | (with_reducible exact Grew.refl _) | (with_reducible assumption) | (with_reducible refine Grew.alloc ?_ _) | (with_reducible refine Grew.drew ?_) | (with_reducible refine Grew.drewN ?_ _) | (with_reducible refine Grew.setRow ?_ (by first | (simp; done) | (simp; omega) | omega) _) | (with_reducible refine Grew.setCell ?_ (by first | (simp; done) | (simp; omega) | omega) _) | ((with_reducible apply Grew.trans); rotate_left; (with_reducible assumption)) | ((with_reducible apply Grew.turn); rotate_left; (with_reducible assumption); (focus (intro i hi; first | omega | (simp at hi; omega)))) | fail)⟩
  rw [hi, if_neg (by omega), Int.toNat_natCast] at hr
  have HIE := Lib.hid hi
  have hkn : (k : Int) < (T.labels.length : Int) := by omega
  obtain ⟨kf, hkf⟩ : ∃ kf, freeT T = kf := ⟨_, rfl⟩
  have hkl : kf.length ≤ 128 := by rw [← hkf]; exact freeT_len T
  rw [hkf] at hr
  obtain ⟨ka, hka⟩ : ∃ ka, ints (allocS (memS kf) n 16).1 = ka := ⟨_, rfl⟩
  obtain ⟨er2, her⟩ : ∃ er2, (allocS (memS kf) n 16).2 = er2 := ⟨_, rfl⟩
  rw [hka, her] at hr
  have HKF := Lib.hid hkf
  have HKA := Lib.hid hka
  have HER := Lib.hid her
  clear hi hkf hka her
  by_cases h0 : er2 = 0
  rotate_left
  · rw [if_neg h0] at hr
    injection hr with e1 e2
    subst e1; subst e2
    have hne : (er2 != 0) = true := by rw [bne_iff_ne]; exact h0
    clear h0
    go_enter Tryz.func34, Tryz.ntmps34
    go_wp2_with fail
    refine HV.out.mono ?_
    rintro e w1 ⟨rfl, g1⟩
    rw [HVF.out]
    have hr1 := HRF.out.grew g1
    have r0 := hr1.cell 0
    have r1 := hr1.cell 1
    have hrl := hr1.lt
    have hz1 := HZ0.out.grew g1
    have hzl := hz1.lt
    have HG1 := Lib.hid (HG0.out.trans g1)
    have HB1 := Lib.hid (HB0.out.grew g1)
    have HR1 := Lib.hid hr1
    have HZ1 := Lib.hid hz1
    have b2 := HB1.out.cell 2
    have hbl := HB1.out.lt
    clear hz1 hr1 g1
    go_wp2_with fail
    refine (hasTent_any A c xs T (w.heap.size + 1) id unit w1 (HTB.out.hold HG1.out) HS.out HR1.out _ rfl).mono ?_
    rintro e w2 ⟨rfl, g2⟩
    rw [HTE.out]
    have HG2 := Lib.hid (HG1.out.trans g2)
    have HB2 := Lib.hid (HB1.out.grew g2)
    have HR2 := Lib.hid (HR1.out.grew g2)
    have HZ2 := Lib.hid (HZ1.out.grew g2)
    clear b2 hbl r0 r1 hrl hzl g2
    have b2 := HB2.out.cell 2
    have hbl := HB2.out.lt
    go_wp2_with fail
    refine (find_empty A c xs T (w.heap.size + 1) id unit w2 (HTB.out.hold HG2.out) HS.out HR2.out _ rfl).mono ?_
    rintro e w3 ⟨rfl, g3⟩
    rw [HIE.out]
    have HG3 := Lib.hid (HG2.out.trans g3)
    have HB3 := Lib.hid (HB2.out.grew g3)
    have HR3 := Lib.hid (HR2.out.grew g3)
    have HZ3 := Lib.hid (HZ2.out.grew g3)
    clear b2 hbl g3
    have b0 := HB3.out.cell 0
    have b1 := HB3.out.cell 1
    have b2 := HB3.out.cell 2
    have hbl := HB3.out.lt
    go_wp2_with fail
    refine (free_tab A c xs T w3 (HTB.out.hold HG3.out) HS.out _ rfl kf HKF.out).mono ?_
    rintro e w4 ⟨A4, c4, rfl, hr4, g4⟩
    have HG4 := Lib.hid (HG3.out.trans g4)
    have HB4 := Lib.hid (HB3.out.grew g4)
    have HR4 := Lib.hid (HR3.out.grew g4)
    have HZ4 := Lib.hid (HZ3.out.grew g4)
    clear b0 b1 b2 hbl g4
    go_wp2_with fail
    refine (alloc_new rfl (by omega) hr4 n n0 n1 16 ka er2 HKA.out HER.out).mono ?_
    rintro e w5 ⟨A5, c5, rfl, hn5, g5⟩
    clear hr4
    have hz1 := HZ4.out.grew g5
    have hzl5 := hz1.lt
    have z0 := hz1.cell 0
    have z1 := hz1.cell 1
    have z2 := hz1.cell 2
    have f0 := hz1.frozen 0
    have f1 := hz1.frozen 1
    have f2 := hz1.frozen 2
    have hg1 := HG4.out.trans g5
    clear hz1 g5 hn5
    go_wp2_with fail
    refine bodyPost_ret (by first | (simp [*, results, Tryz.results34, go_sem]; rfl) | simp [*, results, Tryz.results34, go_sem]) rfl ?_
    exact ⟨none, 0, [], rfl, TabAt.zero _, by (repeat' first | (with_reducible exact Grew.refl _) | (with_reducible assumption) | (with_reducible refine Grew.alloc ?_ _) | (with_reducible refine Grew.drew ?_) | (with_reducible refine Grew.drewN ?_ _) | (with_reducible refine Grew.setRow ?_ (by first | (simp; done) | (simp; omega) | omega) _) | (with_reducible refine Grew.setCell ?_ (by first | (simp; done) | (simp; omega) | omega) _) | ((with_reducible apply Grew.trans); rotate_left; (with_reducible assumption)) | ((with_reducible apply Grew.turn); rotate_left; (with_reducible assumption); (focus (intro i hi; first | omega | (simp at hi; omega)))) | fail)⟩
  subst h0
  rw [if_pos rfl] at hr
  injection hr with e1 e2
  subst e2
  have HT' := Lib.hid e1
  clear e1
  go_enter Tryz.func34, Tryz.ntmps34
  go_wp2_with fail
  refine HV.out.mono ?_
  rintro e w1 ⟨rfl, g1⟩
  rw [HVF.out]
  have hr1 := HRF.out.grew g1
  have r0 := hr1.cell 0
  have r1 := hr1.cell 1
  have hrl := hr1.lt
  have hz1 := HZ0.out.grew g1
  have hzl := hz1.lt
  have HG1 := Lib.hid (HG0.out.trans g1)
  have HB1 := Lib.hid (HB0.out.grew g1)
  have HR1 := Lib.hid hr1
  have HZ1 := Lib.hid hz1
  have b2 := HB1.out.cell 2
  have hbl := HB1.out.lt
  clear hz1 hr1 g1
  go_wp2_with fail
  refine (hasTent_any A c xs T (w.heap.size + 1) id unit w1 (HTB.out.hold HG1.out) HS.out HR1.out _ rfl).mono ?_
  rintro e w2 ⟨rfl, g2⟩
  rw [HTE.out]
  have HG2 := Lib.hid (HG1.out.trans g2)
  have HB2 := Lib.hid (HB1.out.grew g2)
  have HR2 := Lib.hid (HR1.out.grew g2)
  have HZ2 := Lib.hid (HZ1.out.grew g2)
  clear b2 hbl r0 r1 hrl hzl g2
  have b2 := HB2.out.cell 2
  have hbl := HB2.out.lt
  go_wp2_with fail
  refine (find_empty A c xs T (w.heap.size + 1) id unit w2 (HTB.out.hold HG2.out) HS.out HR2.out _ rfl).mono ?_
  rintro e w3 ⟨rfl, g3⟩
  rw [HIE.out]
  have HG3 := Lib.hid (HG2.out.trans g3)
  have HB3 := Lib.hid (HB2.out.grew g3)
  have HR3 := Lib.hid (HR2.out.grew g3)
  have HZ3 := Lib.hid (HZ2.out.grew g3)
  clear b2 hbl g3
  have b0 := HB3.out.cell 0
  have b1 := HB3.out.cell 1
  have b2 := HB3.out.cell 2
  have hbl := HB3.out.lt
  go_wp2_with fail
  refine (free_tab A c xs T w3 (HTB.out.hold HG3.out) HS.out _ rfl kf HKF.out).mono ?_
  rintro e w4 ⟨A4, c4, rfl, hr4, g4⟩
  have HG4 := Lib.hid (HG3.out.trans g4)
  have HB4 := Lib.hid (HB3.out.grew g4)
  have HR4 := Lib.hid (HR3.out.grew g4)
  have HZ4 := Lib.hid (HZ3.out.grew g4)
  clear b0 b1 b2 hbl g4
  go_wp2_with fail
  refine (alloc_new rfl (by omega) hr4 n n0 n1 16 ka 0 HKA.out HER.out).mono ?_
  rintro e w5 ⟨A5, c5, rfl, hn5, g5⟩
  clear hr4
  have HG5 := Lib.hid (HG4.out.trans g5)
  have HB5 := Lib.hid (HB4.out.grew g5)
  have HR5 := Lib.hid (HR4.out.grew g5)
  have HZ5 := Lib.hid (HZ4.out.grew g5)
  have HN5 := Lib.hid hn5
  clear g5 hn5
  have b0 := HB5.out.cell 0
  have b1 := HB5.out.cell 1
  have b2 := HB5.out.cell 2
  have hbl := HB5.out.lt
  go_wp2_with fail
  refine (clone_tab A c xs T w5 (HTB.out.hold HG5.out) HS.out _ rfl).mono ?_
  rintro e w6 ⟨v, ys, rfl, hto, g6⟩
  obtain ⟨g, cap, rfl, hgb, hgs⟩ : ∃ g cap, v = .slice (some ⟨g, 0, none⟩) T.labels.length cap ∧ w5.heap.size ≤ g ∧ g < w6.heap.size := by
    rcases hto.own.form with ⟨_, h0⟩ | ⟨g, cap, hv, h1, h2, -⟩
    · have := congrArg List.length h0; rw [List.length_map, hto.len, List.length_nil] at this; omega
    · rw [List.length_map, hto.len] at hv; exact ⟨g, cap, hv, h1, h2⟩
  have hl1 : k < cap := by have := hto.own.len.2.1; omega
  obtain ⟨B, d, hrow, -, -, -⟩ := hto.row hk
  have y0 : w6.cell? ⟨g, k * 5, none⟩ = some (.int .i64 T.labels[k].id) := hto.own.cell0 hrow rfl
  have y1 : w6.cell? ⟨g, k * 5 + 1, none⟩ = some (.int .i64 T.labels[k].unit) := hto.own.cell hrow (i := 1) rfl
  have y2 : w6.cell? ⟨g, k * 5 + 2, none⟩ = some (.string T.labels[k].name) := hto.own.cell hrow (i := 2) rfl
  have y3 : w6.cell? ⟨g, k * 5 + 3, none⟩ = some (.string T.labels[k].note) := hto.own.cell hrow (i := 3) rfl
  have y4 : w6.cell? ⟨g, k * 5 + 4, none⟩ = some (.slice B T.labels[k].ext.length d) := hto.own.cell hrow (i := 4) rfl
  have yf0 := hto.own.frozen (k * 5)
  have yf1 := hto.own.frozen (k * 5 + 1)
  have yf2 := hto.own.frozen (k * 5 + 2)
  have yf3 := hto.own.frozen (k * 5 + 3)
  have yf4 := hto.own.frozen (k * 5 + 4)
  have hr6 := HR5.out.grew g6
  have r60 := hr6.cell 0
  have r61 := hr6.cell 1
  have hrl6 := hr6.lt
  have hz6 := HZ5.out.grew g6
  have z0 := hz6.cell 0
  have z1 := hz6.cell 1
  have z2 := hz6.cell 2
  have f0 := hz6.frozen 0
  have f1 := hz6.frozen 1
  have f2 := hz6.frozen 2
  have hzl6 := hz6.lt
  have hz5 := HZ5.out.lt
  have hla : LabAt w6 A5 c5 ⟨id, unit, nm, nt, ka⟩ := ⟨by simp only; omega, by simp only; omega, by simp only; omega, by simp only; omega, hns, hts, (HN5.out.hold g6).1, HN5.out.2.1, HN5.out.2.2.1⟩
  have hfar : 0 < ka.length → ∀ b off, A5 = some ⟨b, off, none⟩ → b ≠ g := fun h0 b off e => by
    obtain ⟨b', off', e', hb', _⟩ := HN5.out.1.2 (by simpa using h0)
    rw [e] at e'
    injection e' with e'
    injection e' with e'
    omega
  have ht7 := (hto.set5 hk ⟨A5, c5, ⟨id, unit, nm, nt, ka⟩⟩ hla hfar).hold ((Grew.refl _).alloc (.cells #[.string T.name, .int .i64 T.tracks, .slice (some ⟨g, 0, none⟩) T.labels.length cap] 24))
  have tu7 := set5_turned w6 g (k * 5) (.int .i64 id) (.int .i64 unit) (.string nm) (.string nt) (.slice A5 ka.length c5)
  have hz7 := (hz6.turned tu7 (by omega)).alloc (.cells #[.string T.name, .int .i64 T.tracks, .slice (some ⟨g, 0, none⟩) T.labels.length cap] 24)
  have hx7 := Blk.new (((((w6.setCell ⟨g, k * 5, none⟩ (.int .i64 id)).setCell ⟨g, k * 5 + 1, none⟩ (.int .i64 unit)).setCell ⟨g, k * 5 + 2, none⟩ (.string nm)).setCell ⟨g, k * 5 + 3, none⟩ (.string nt)).setCell ⟨g, k * 5 + 4, none⟩ (.slice A5 ka.length c5)) 24 #[.string T.name, .int .i64 T.tracks, .slice (some ⟨g, 0, none⟩) T.labels.length cap] (n := w6.heap.size) (by simp [World.setCell])
  have hg7 := (((HG5.out.trans g6)).turn tu7 (fun i e => by have := HG5.out.size; omega)).alloc (.cells #[.string T.name, .int .i64 T.tracks, .slice (some ⟨g, 0, none⟩) T.labels.length cap] 24)
  have HAP := Lib.hid (ht7.apart hz7)
  have HT7 := Lib.hid ht7
  have HZ7 := Lib.hid hz7
  have HX7 := Lib.hid hx7
  have HN7 := Lib.hid ht7.nlen
  have HNM := Lib.hid (show T.name.size ≤ 9223372036854775807 ∧ -9223372036854775808 ≤ T.tracks ∧ T.tracks ≤ 9223372036854775807 from ⟨HTB.out.name, HTB.out.tr0, HTB.out.tr1⟩)
  have hww : w.heap.size + 1 + 1 < w5.heap.size := hz5
  have HG7 := Lib.hid hg7
  have hq1 : w.heap.size + 1 + 1 < g := by omega
  have hq2 : w.heap.size + 1 < g := by omega
  clear hg7 a1 a2 a3 a4 a5 a6 a7 a5i a6i hkl n0 n1 hns hts hww hgb hz5 hto hrow hr6 hz6 hla hfar ht7 tu7 hz7 hx7 g6 b0 b1 b2 hbl
  go_upto_region 13 with fail
  obtain ⟨W, hW⟩ : ∃ W, W = (((((w6.setCell ⟨g, k * 5, none⟩ (.int .i64 id)).setCell ⟨g, k * 5 + 1, none⟩ (.int .i64 unit)).setCell ⟨g, k * 5 + 2, none⟩ (.string nm)).setCell ⟨g, k * 5 + 3, none⟩ (.string nt)).setCell ⟨g, k * 5 + 4, none⟩ (.slice A5 ka.length c5)).alloc (.cells #[.string T.name, .int .i64 T.tracks, .slice (some ⟨g, 0, none⟩) T.labels.length cap] 24) := ⟨_, rfl⟩
  rw [← hW]
  rw [← hW] at HT7 HZ7 HX7 HG7
  clear hW z0 z1 z2 f0 f1 f2 y0 y1 y2 y3 y4 yf0 yf1 yf2 yf3 yf4 r60 r61
  have z0 := HZ7.out.cell 0
  have z1 := HZ7.out.cell 1
  have z2 := HZ7.out.cell 2
  have f0 := HZ7.out.frozen 0
  have f1 := HZ7.out.frozen 1
  have f2 := HZ7.out.frozen 2
  have hzl7 := HZ7.out.lt
  have x0 := HX7.out.cell 0
  have x1 := HX7.out.cell 1
  have x2 := HX7.out.cell 2
  have hxl7 := HX7.out.lt
  go_wp2_with fail
  refine bodyPost_ret (by first | (simp [*, results, Tryz.results34, go_sem]; rfl) | simp [*, results, Tryz.results34, go_sem]) rfl ?_
  refine ⟨some ⟨g, 0, none⟩, cap, ys.set k ⟨A5, c5, ⟨id, unit, nm, nt, ka⟩⟩, by rw [← HT'.out]; simp only [HN7.out], ?_, by have hg := HG7.out; (repeat' first | (with_reducible exact Grew.refl _) | (with_reducible assumption) | (with_reducible refine Grew.alloc ?_ _) | (with_reducible refine Grew.drew ?_) | (with_reducible refine Grew.drewN ?_ _) | (with_reducible refine Grew.setRow ?_ (by first | (simp; done) | (simp; omega) | omega) _) | (with_reducible refine Grew.setCell ?_ (by first | (simp; done) | (simp; omega) | omega) _) | ((with_reducible apply Grew.trans); rotate_left; (with_reducible assumption)) | ((with_reducible apply Grew.turn); rotate_left; (with_reducible assumption); (focus (intro i hi; first | omega | (simp at hi; omega)))) | fail)⟩
  rw [← HT'.out]
  exact (HT7.out.turned (S := fun k => k = w.heap.size + 1 + 1) (by (repeat' first | (with_reducible exact Turned.refl _ _) | (with_reducible assumption) | (with_reducible refine Turned.alloc ?_ _) | (with_reducible refine Turned.drew ?_) | (with_reducible refine Turned.drewN ?_ _) | (with_reducible refine Turned.setRow ?_ (by first | (simp; done) | (simp; omega) | omega) _) | (with_reducible refine Turned.setCell ?_ (by first | (simp; done) | (simp; omega) | omega) _) | ((with_reducible apply Turned.andGrew); rotate_left; (with_reducible assumption)) | ((with_reducible apply Turned.trans); rotate_left; (with_reducible assumption)) | fail)) (fun g' e => by have e' : g = g' := Option.some.inj e; omega) (fun y hy h0 b off e => HAP.out y hy h0 b off e)).tabAt _ _ HNM.out.1 HNM.out.2.1 HNM.out.2.2
end
end Go.Proofs.YtnlaogneceanoaaGreat
namespace Go.Proofs.YtnlaogneceanoaaGreat
set_option linter.unusedVariables false
set_option linter.unusedSimpArgs false
set_option linter.unusedSectionVars false
open Go.RowKit
def sectorS (l : List (Int × Int)) (s : Int) : Int × Bool := if s < 0 then (0, false) else if (atS l (s / 8)).2 = true then ((atS l (s / 8)).1 * 8 + s % 8, true) else (0, false)
theorem at_bd (l : List (Int × Int)) (t : Int) (h0 : 0 ≤ t) (h : (atS l t).2 = true) : ∃ k : Nat, (atS l t).1 = (k : Int) ∧ k < 128 ∧ inT l (k : Int) = true ∧ (seqS l)[t.toNat]? = some k := by
  obtain ⟨n, rfl⟩ : ∃ n : Nat, t = (n : Int) := ⟨t.toNat, by omega⟩
  rw [atS_pick] at h ⊢
  unfold pickT at h ⊢
  by_cases hn : n < (seqS l).length
  · rw [if_pos hn]
    have hm : (seqS l)[n] ∈ seqS l := List.getElem_mem hn
    refine ⟨(seqS l)[n], by simp [hn], seqS_lt l _ hm, by rw [inT_nat]; exact (mem_seqS l _).1 hm, by rw [Int.toNat_natCast, List.getElem?_eq_getElem hn]⟩
  · rw [if_neg hn] at h; cases h
theorem sectorS_neg (l : List (Int × Int)) (s : Int) (h : s < 0) : sectorS l s = (0, false) := if_pos h
theorem sectorS_cases (l : List (Int × Int)) (s : Int) (h : 0 ≤ s) : ((atS l (s / 8)).2 = false ∧ sectorS l s = (0, false)) ∨ ∃ k : Nat, atS l (s / 8) = ((k : Int), true) ∧ k < 128 ∧ inT l (k : Int) = true ∧ (seqS l)[(s / 8).toNat]? = some k ∧ sectorS l s = ((k : Int) * 8 + s % 8, true) := by
  cases hc : (atS l (s / 8)).2 with
  | false => exact .inl ⟨rfl, by unfold sectorS; rw [if_neg (by omega), if_neg (by rw [hc]; simp)]⟩
  | true =>
    obtain ⟨k, h1, h2, h3, h4⟩ := at_bd l (s / 8) (by omega) hc
    exact .inr ⟨k, Prod.ext h1 hc, h2, h3, h4, by unfold sectorS; rw [if_neg (by omega), if_pos hc, h1]⟩
section
variable (A : Option Addr) (c : Nat) (l : Lab) (w : World)
set_option maxRecDepth 100000 in
set_option maxHeartbeats 2000000 in
theorem sector_lab (hla : LabAt w A c l) (hs : l.ext.length ≤ 1000) (s : Int) (s0 : -9223372036854775808 ≤ s) (s1 : s ≤ 9223372036854775807) (a : Int) (b : Bool) (hab : sectorS l.ext s = (a, b)) :
    Calls Tryz.prog 36 #[.agg #[.int .i64 l.id, .int .i64 l.unit, .string l.name, .string l.note, .slice A l.ext.length c], .int .i64 s] w fun e w' => e = .returned (.tuple #[.int .i64 a, .bool b]) ∧ Grew w w' := by
  have hg0 := (Grew.refl w).alloc (.cells #[.int .i64 l.id, .int .i64 l.unit, .string l.name, .string l.note, .slice A l.ext.length c] 31)
  by_cases hn : s < 0
  · rw [sectorS_neg _ _ hn] at hab
    injection hab with e1 e2
    subst e1; subst e2
    go_enter Tryz.func36, Tryz.ntmps36
    go_wp2_with fail
    go_returns
    exact ⟨rfl, by (repeat' first | (with_reducible exact Grew.refl _) | (with_reducible assumption) | (with_reducible refine Grew.alloc ?_ _) | (with_reducible refine Grew.drew ?_) | (with_reducible refine Grew.drewN ?_ _) | (with_reducible refine Grew.setRow ?_ (by first | (simp; done) | (simp; omega) | omega) _) | (with_reducible refine Grew.setCell ?_ (by first | (simp; done) | (simp; omega) | omega) _) | ((with_reducible apply Grew.trans); rotate_left; (with_reducible assumption)) | ((with_reducible apply Grew.turn); rotate_left; (with_reducible assumption); (focus (intro i hi; first | omega | (simp at hi; omega)))) | fail)⟩
  have hs0 : 0 ≤ s := by omega
  have HC := Lib.hid (fun w1 (hg : Grew w w1) => at_val A c _ l.ext _ rfl (by omega) (hla.hold hg).runs (s / 8) (by omega) (by omega))
  have hd : s.tdiv 8 = s / 8 := Int.tdiv_eq_ediv_of_nonneg hs0
  have hm : s.tmod 8 = s % 8 := Int.tmod_eq_emod_of_nonneg hs0
  rcases sectorS_cases l.ext s hs0 with ⟨h2, hx⟩ | ⟨k, h1, h2, _, _, hx⟩
  · rw [hx] at hab
    injection hab with e1 e2
    subst e1; subst e2
    obtain ⟨⟨x, y⟩, hxy⟩ : ∃ p, atS l.ext (s / 8) = p := ⟨_, rfl⟩
    rw [hxy] at h2
    simp only at h2
    subst h2
    have HX := Lib.hid (show (if s / 8 < 0 then ((0, false) : Int × Bool) else atS l.ext (s / 8)) = (x, false) from by rw [if_neg (by omega), hxy])
    clear hx hxy hla
    go_enter Tryz.func36, Tryz.ntmps36
    go_wp2_with fail
    refine (HC.out _ hg0 _ _ HX.out).mono ?_
    rintro e w2 ⟨rfl, g2⟩
    go_wp2_with fail
    go_returns
    exact ⟨rfl, hg0.trans g2⟩
  · rw [hx] at hab
    injection hab with e1 e2
    subst e2
    have HX := Lib.hid (show (if s / 8 < 0 then ((0, false) : Int × Bool) else atS l.ext (s / 8)) = ((k : Int), true) from by rw [if_neg (by omega), h1])
    have hmb : 0 ≤ s % 8 ∧ s % 8 < 8 := by omega
    have HA := Lib.hid e1
    clear hx h1 hla e1
    go_enter Tryz.func36, Tryz.ntmps36
    go_wp2_with fail
    refine (HC.out _ hg0 _ _ HX.out).mono ?_
    rintro e w2 ⟨rfl, g2⟩
    go_wp2_with fail
    go_returns
    exact ⟨ret_ib (by rw [← HA.out] <;> omega) rfl, hg0.trans g2⟩
end
def awS : ByteArray := ⟨#[86, 79, 76]⟩
def awN : ByteArray := ⟨#[110, 111, 116, 101]⟩
def awT1 : Tab := ⟨awS, 16, [labZ, labZ, labZ]⟩
def awT2 : Tab := ⟨awS, 16, [⟨5, 2, ⟨#[65]⟩, ⟨#[]⟩, [(4, 3)]⟩, labZ, labZ]⟩
def awT3 : Tab := ⟨awS, 16, [⟨5, 0, ⟨#[65]⟩, awN, [(4, 3)]⟩, labZ, labZ]⟩
theorem aw_new : newT awS 16 = (awT1, 0) := by kernel_rfl
theorem aw_create : createT awT1 5 2 ⟨#[65]⟩ ⟨#[]⟩ 3 = (awT2, 0) := by kernel_rfl
theorem aw_confirm : chgT awT2 5 2 (chCon awT2 5 awN) = (awT3, 0) := by kernel_rfl
theorem aw_find : fndT awT3 5 0 = (⟨5, 0, ⟨#[65]⟩, awN, [(4, 3)]⟩, true) := by kernel_rfl
theorem aw_sector : sectorS [(4, 3)] 9 = (41, true) := by decide +kernel
end Go.Proofs.YtnlaogneceanoaaGreat
namespace Go.Proofs.YtnlaogneceanoaaGreat
set_option linter.unusedVariables false
set_option linter.unusedSimpArgs false
set_option linter.unusedSectionVars false
open Go.RowKit
theorem small_of (T : Tab) (h1 : T.labels.length ≤ 1000) (h2 : T.labels.all (fun l => decide (l.ext.length ≤ 1000)) = true) : SmallT T :=
  ⟨h1, fun l hl => by have := List.all_eq_true.1 h2 l hl; simpa using this⟩
/-- A variable that holds a table gets another one. -/
theorem Blk.tab {w : World} {g : Nat} {t : TypeId} {s0 s1 : ByteArray} {i0 i1 : Int} {a0 a1 : Option Addr} {n0 c0 n1 c1 : Nat} (h : Blk w g t #[.string s0, .int .i64 i0, .slice a0 n0 c0]) : Blk (((w.setCell ⟨g, 0, none⟩ (.string s1)).setCell ⟨g, 1, none⟩ (.int .i64 i1)).setCell ⟨g, 2, none⟩ (.slice a1 n1 c1)) g t #[.string s1, .int .i64 i1, .slice a1 n1 c1] :=
  ((h.set_ 0 _).set_ 1 _).set_ 2 _
theorem tab3_turned (w : World) (g : Nat) (a b c : Value) : Turned (fun x => x = g) w (((w.setCell ⟨g, 0, none⟩ a).setCell ⟨g, 1, none⟩ b).setCell ⟨g, 2, none⟩ c) :=
  ((set_turned w g 0 a).trans (set_turned _ g 1 b)).trans (set_turned _ g 2 c)
theorem Grew.tab3 {a w : World} (h : Grew a w) {g : Nat} (hg : a.heap.size ≤ g) (x y z : Value) : Grew a (((w.setCell ⟨g, 0, none⟩ x).setCell ⟨g, 1, none⟩ y).setCell ⟨g, 2, none⟩ z) := ((h.setCell (p := ⟨g, 0, none⟩) hg x).setCell (p := ⟨g, 1, none⟩) hg y).setCell (p := ⟨g, 2, none⟩) hg z
set_option maxRecDepth 100000 in
set_option maxHeartbeats 8000000 in
theorem awake_con (w : World) : Calls Tryz.prog 6 #[] w fun e w' => e = .returned (.bool true) ∧ Grew w w' := by
  have HNEW := Lib.hid (fun w => new_tab awS 16 w (by decide) (by omega) (by omega) awT1 0 aw_new)
  have HCR := Lib.hid (fun A c xs w (h : TabAt w A c xs awT1) => create_tab A c xs awT1 5 2 w h (small_of _ (by decide) (by decide)) ⟨#[65]⟩ ⟨#[]⟩ (by decide) (by decide) 3 (by omega) (by omega) awT2 0 aw_create)
  have HCF := Lib.hid (fun A c xs w (h : TabAt w A c xs awT2) => confirm_tab A c xs awT2 5 2 w h (small_of _ (by decide) (by decide)) awN (by decide) awT3 0 aw_confirm)
  have HFD := Lib.hid (fun A c xs w (h : TabAt w A c xs awT3) => find_tab A c xs awT3 w h (small_of _ (by decide) (by decide)) _ rfl 5 0 ⟨5, 0, ⟨#[65]⟩, awN, [(4, 3)]⟩ true aw_find)
  have hn3 : awT3.labels.length = 3 := rfl
  have hnl : awN.toList = [110, 111, 116, 101] := by kernel_rfl
  go_enter Tryz.func6, Tryz.ntmps6
  go_wp2_with fail
  refine (HNEW.out _).mono ?_
  rintro e w1 ⟨A1, c1, xs1, rfl, ht1, g1⟩
  have ga : Grew w1 (w1.alloc (.cells #[.string awT1.name, .int .i64 awT1.tracks, .slice A1 awT1.labels.length c1] 24)) := (Grew.refl w1).alloc _
  have HT1 := Lib.hid (ht1.hold ga)
  have HB1 := Lib.hid (Blk.new w1 24 #[.string awT1.name, .int .i64 awT1.tracks, .slice A1 awT1.labels.length c1] rfl)
  have HG1 := Lib.hid (g1.trans ga)
  have HW1 := Lib.hid g1.size
  clear ht1 ga g1
  go_wp2_with fail
  refine (HCR.out A1 c1 xs1 _ HT1.out).mono ?_
  rintro e w2 ⟨A2, c2, xs2, rfl, ht2, g2⟩
  have hb2 := HB1.out.grew g2
  have z0 := hb2.cell 0
  have z1 := hb2.cell 1
  have z2 := hb2.cell 2
  have f0 := hb2.frozen 0
  have f1 := hb2.frozen 1
  have f2 := hb2.frozen 2
  have hzl := hb2.lt
  have HT2 := Lib.hid (ht2.apart hb2 (tab3_turned w2 w1.heap.size (.string awT2.name) (.int .i64 awT2.tracks) (.slice A2 awT2.labels.length c2)))
  have HB2 := Lib.hid (hb2.tab (s1 := awT2.name) (i1 := awT2.tracks) (a1 := A2) (n1 := awT2.labels.length) (c1 := c2))
  have HG2 := Lib.hid ((HG1.out.trans g2).tab3 HW1.out (.string awT2.name) (.int .i64 awT2.tracks) (.slice A2 awT2.labels.length c2))
  clear ht2 g2 hb2
  go_wp2_with fail
  refine (HCF.out A2 c2 xs2 _ HT2.out).mono ?_
  rintro e w3 ⟨A3, c3, xs3, rfl, ht3, g3⟩
  clear z0 z1 z2 f0 f1 f2 hzl
  have hb3 := HB2.out.grew g3
  have z0 := hb3.cell 0
  have z1 := hb3.cell 1
  have z2 := hb3.cell 2
  have f0 := hb3.frozen 0
  have f1 := hb3.frozen 1
  have f2 := hb3.frozen 2
  have hzl := hb3.lt
  have HT3 := Lib.hid (ht3.apart hb3 (tab3_turned w3 w1.heap.size (.string awT3.name) (.int .i64 awT3.tracks) (.slice A3 awT3.labels.length c3)))
  have HB3 := Lib.hid (hb3.tab (s1 := awT3.name) (i1 := awT3.tracks) (a1 := A3) (n1 := awT3.labels.length) (c1 := c3))
  have HG3 := Lib.hid ((HG2.out.trans g3).tab3 HW1.out (.string awT3.name) (.int .i64 awT3.tracks) (.slice A3 awT3.labels.length c3))
  clear ht3 g3 hb3
  go_wp2_with fail
  refine (HFD.out A3 c3 xs3 _ HT3.out).mono ?_
  rintro e w4 ⟨B4, d4, rfl, hl4, g4⟩
  clear z0 z1 z2 f0 f1 f2 hzl
  have gb : Grew w4 (w4.alloc (.cells #[.int .i64 5, .int .i64 0, .string ⟨#[65]⟩, .string awN, .slice B4 1 d4] 31)) := (Grew.refl w4).alloc _
  have HL4 := Lib.hid (hl4.hold gb)
  have HN4 := Lib.hid (Blk.new w4 31 #[.int .i64 5, .int .i64 0, .string ⟨#[65]⟩, .string awN, .slice B4 1 d4] rfl)
  have HB4 := Lib.hid ((HB3.out.grew g4).grew gb)
  have HG4 := Lib.hid ((HG3.out.trans g4).trans gb)
  clear hl4 gb g4
  go_wp2_with fail
  refine (sector_lab B4 d4 _ _ HL4.out (by decide) 9 (by omega) (by omega) 41 true aw_sector).mono ?_
  rintro e w5 ⟨rfl, g5⟩
  have hn5 := HN4.out.grew g5
  have y3 := hn5.cell 3
  have y4 := hn5.cell 4
  have hyl := hn5.lt
  have hb5 := HB4.out.grew g5
  have z2 := hb5.cell 2
  have hzl := hb5.lt
  have ga5 : Grew w5 (w5.alloc (.cells #[.int .i64 4, .int .i64 3] 65)) := (Grew.refl w5).alloc _
  have r5 : RunsAt (w5.alloc (.cells #[.int .i64 4, .int .i64 3] 65)) (w5.alloc (.cells #[.int .i64 4, .int .i64 3] 65)).heap.size (some ⟨w5.heap.size, 0, none⟩) [(4, 3)] := blk_runs (Blk.new w5 _ _ rfl) rfl (by simp [okRun])
  have HS := Lib.hid (same_val B4 (some ⟨w5.heap.size, 0, none⟩) d4 1 1 1 [(4, 3)] [(4, 3)] _ rfl rfl (by decide) (by decide) ((HL4.out.hold g5).hold ga5).runs r5 true (by decide))
  have HB6 := Lib.hid (hb5.grew ga5)
  have HG5 := Lib.hid ((HG4.out.trans g5).trans ga5)
  clear r5 ga5 hn5 hb5 g5
  go_wp2_with fail
  refine HS.out.mono ?_
  rintro e w6 ⟨rfl, g6⟩
  clear z2 hzl
  have hb6 := HB6.out.grew g6
  have z2 := hb6.cell 2
  have hzl := hb6.lt
  go_wp2_with fail
  go_ret
  exact ⟨rfl, HG5.out.trans g6⟩
end Go.Proofs.YtnlaogneceanoaaGreat
namespace Go.Proofs.YtnlaogneceanoaaGreat
set_option linter.unusedVariables false
set_option linter.unusedSimpArgs false
set_option linter.unusedSectionVars false
open Go.ChangeShapes Go.WideShapes Go.ChangeAt Go.RowKit Go.Deep
attribute [local go_sem ↓] Go.wp_at_zero Go.wp_at_succ
section
variable {H : Type} {enc : TypeId × Value → H} {w : World}
set_option maxRecDepth 100000 in
theorem open_tabC {n : Nat} {cs : List Value} {y : DataW H × List MemPlace} (hlen : cs.length = 3) (h : DataW.trod enc Tryz.prog w 0 (fun _ => true) true n 24 cs = some y) :
    ∃ A c, ∃ T : Tab, cs = [.string T.name, .int .i64 T.tracks, .slice A T.labels.length c] ∧ ∃ xs, TabAt w A c xs T := by
  have hf := struct_fields Tryz.underlying24 (by kernel_rfl) h
  obtain ⟨v0, _, _, e0, f0⟩ := hf 0 _ rfl (by omega)
  obtain ⟨v1, _, _, e1, f1⟩ := hf 1 _ rfl (by omega)
  obtain ⟨v2, _, _, e2, f2⟩ := hf 2 _ rfl (by omega)
  obtain ⟨n0, hn0, _, w0⟩ := DataW.trod_string Tryz.underlying9 f0
  obtain ⟨n1, hn1, _, w1⟩ := DataW.trod_int Tryz.underlying3 f1
  obtain ⟨A, c, xs, rfl, h1, h2, h3, h4⟩ := open_listF (α := LabE) (sz := 5) Tryz.underlying22 (by kernel_rfl) (by omega) labC (fun x => LabAt w x.A x.c x.l) (fun n cs y hlen h => by
      obtain ⟨A, c, l, hcs, hl⟩ := open_labelC hlen h
      exact ⟨⟨A, c, l⟩, hl, hcs⟩) f2
  injection hn0 with hn0 _
  injection hn1 with hn1 _
  subst hn0; subst hn1
  have b1 := wf_i64 w1
  unfold maxLen at w0
  refine ⟨A, c, ⟨n0, n1, xs.map (·.l)⟩, ?_, xs, ⟨h3, h4, h1, h2, rfl, b1.1, b1.2, by simpa using w0⟩⟩
  match cs, hlen with
  | [x0, x1, x2], _ =>
    simp at e0 e1 e2
    rw [e0, e1, e2]
    simp
set_option maxRecDepth 100000 in
theorem open_tab {r : Reach} {b0 : Nat} {v : Value} {d : DataW H} {ps : List MemPlace} (hv : Value.okWide Tryz.prog w r b0 24 v) (hd : DataW.Trod enc Tryz.prog w 0 (fun _ => true) true 24 v d ps) :
    ∃ A c, ∃ T : Tab, v = .agg #[.string T.name, .int .i64 T.tracks, .slice A T.labels.length c] ∧ ∃ xs, TabAt w A c xs T := by
  obtain ⟨cs, rfl, hsz⟩ := okWide_struct Tryz.underlying24 hv
  obtain ⟨fuel, hf⟩ := hd
  obtain ⟨A, c, T, hcs, h⟩ := open_tabC (cs := cs.toList) (by rw [Array.length_toList, hsz]; kernel_rfl) hf
  refine ⟨A, c, T, ?_, h⟩
  congr 1
  exact Array.toList_inj.1 hcs
end
def fewT (T : Tab) : Bool := T.labels.all fewL && (decide (T.name.size ≤ 100) && decide (T.labels.length ≤ 40))
theorem fewT_facts {T : Tab} (h : fewT T = true) : SmallT T ∧ T.name.size ≤ 100 ∧ T.labels.length ≤ 40 ∧ ∀ l ∈ T.labels, fewL l = true := by
  unfold fewT at h
  simp only [Bool.and_eq_true, decide_eq_true_eq, List.all_eq_true] at h
  obtain ⟨h1, h2, h3⟩ := h
  exact ⟨⟨by omega, fun l hl => by have := (fewL_len l (h1 l hl)).2.2; omega⟩, h2, h3, h1⟩
set_option maxRecDepth 100000 in
set_option maxHeartbeats 4000000 in
theorem fewT_any (A : Option Addr) (c : Nat) (xs : List LabE) (T : Tab) (w : World) (h : TabAt w A c xs T) :
    Calls Tryz.prog 7 #[.agg #[.string T.name, .int .i64 T.tracks, .slice A T.labels.length c]] w fun e w' => e = .returned (.bool (fewT T)) ∧ Grew w w' := by
  have hnm := h.name
  have hll : T.labels.length ≤ 9223372036854775807 := by rw [← h.xlen]; exact Nat.le_trans h.len h.cap
  have hg0 := (Grew.refl w).alloc (.cells #[.string T.name, .int .i64 T.tracks, .slice A T.labels.length c] 24)
  have hb0 := Blk.new w 24 #[.string T.name, .int .i64 T.tracks, .slice A T.labels.length c] rfl
  have HTB := Lib.hid h
  have HFE := Lib.hid (show fewT T = (T.labels.all fewL && (decide (T.name.size ≤ 100) && decide (T.labels.length ≤ 40))) from rfl)
  clear h
  have x2 := hb0.cell 2
  go_enter Tryz.func7, Tryz.ntmps7
  go_wp2_with fail
  go_loopg [3] T.labels.length (fun gk i wr => ∃ k : Nat, k ≤ T.labels.length ∧ gk = T.labels.length - k ∧ i = .int .i64 k ∧ (∀ j (hj : j < T.labels.length), j < k → fewL T.labels[j] = true) ∧ Blk wr w.heap.size 24 #[.string T.name, .int .i64 T.tracks, .slice A T.labels.length c] ∧ Grew w wr)
  case atStart => exact ⟨0, by omega, by omega, rfl, fun j _ h => by omega, hb0, hg0⟩
  case round =>
    obtain ⟨k, hk, hgk, rfl, hall, hb, hg⟩ := hrel
    have HGK := Lib.hid hgk
    have HA := Lib.hid hall
    have HG := Lib.hid hg
    have HB := Lib.hid hb
    clear x2
    have x0 := hb.cell 0
    have x2 := hb.cell 2
    have hbl0 := hb.lt
    clear hgk hall hb0 hg0
    by_cases hlt : k < T.labels.length
    · obtain ⟨b, off, B, d, l, rfl, hbl, hxk, hv, hla, c0, c1, c2, c3, c4⟩ := (HTB.out.hold hg).at_ hlt
      have HF := Lib.hid (few_any B d l wr hla)
      have HV := Lib.hid hv
      clear hv hxk hla hb hg
      go_wp2_with fail
      refine HF.out.mono ?_
      rintro e w3 ⟨rfl, g3⟩
      cases hfl : fewL l with
      | false =>
        have HE := Lib.hid (show fewT T = false from by
          rw [HFE.out]
          have : T.labels.all fewL = false := List.all_eq_false.2 ⟨T.labels[k], List.getElem_mem hlt, by rw [HV.out, hfl]; simp⟩
          rw [this]; rfl)
        clear hfl
        go_wp2_with fail
        go_ret
        exact ⟨ret_bool (by rw [HE.out]), HG.out.trans g3⟩
      | true =>
        have HN := Lib.hid (show ∀ j (hj : j < T.labels.length), j < k + 1 → fewL T.labels[j] = true from fun j hj hjk => by
          by_cases hjk' : j = k
          · subst hjk'; rw [HV.out]; exact hfl
          · exact HA.out j hj (by omega))
        have HB3 := Lib.hid (HB.out.grew g3)
        have HG3 := Lib.hid (HG.out.trans g3)
        clear hfl g3
        go_wp2_with fail
        go_roundg (T.labels.length - (k + 1))
        case measure => rw [HGK.out]; omega
        case rel => exact ⟨k + 1, by omega, by omega, by go_num, HN.out, HB3.out, HG3.out⟩
    · have HAL := Lib.hid (show T.labels.all fewL = true from List.all_eq_true.2 (fun l hl => by
        obtain ⟨j, hj, rfl⟩ := List.getElem_of_mem hl
        exact HA.out j hj (by omega)))
      clear hb hg
      by_cases h1 : T.name.size ≤ 100
      · have h1i : (T.name.size : Int) ≤ 100 := by omega
        by_cases h2 : T.labels.length ≤ 40
        · have h2i : (T.labels.length : Int) ≤ 40 := by omega
          have HE := Lib.hid (HFE.out.trans (by rw [HAL.out, decide_eq_true h1, decide_eq_true h2]; rfl) : fewT T = true)
          go_wp2_with fail
          go_ret
          exact ⟨ret_bool (by rw [HE.out]), HG.out⟩
        · have h2i : ¬ (T.labels.length : Int) ≤ 40 := by omega
          have HE := Lib.hid (HFE.out.trans (by rw [HAL.out, decide_eq_true h1, decide_eq_false h2]; rfl) : fewT T = false)
          go_wp2_with fail
          go_ret
          exact ⟨ret_bool (by rw [HE.out]), HG.out⟩
      · have h1i : ¬ (T.name.size : Int) ≤ 100 := by omega
        have HE := Lib.hid (HFE.out.trans (by rw [HAL.out, decide_eq_false h1]; rfl) : fewT T = false)
        go_wp2_with fail
        go_ret
        exact ⟨ret_bool (by rw [HE.out]), HG.out⟩
end Go.Proofs.YtnlaogneceanoaaGreat
namespace Go.Proofs.YtnlaogneceanoaaGreat
set_option linter.unusedVariables false
set_option linter.unusedSimpArgs false
set_option linter.unusedSectionVars false
open Go.RowKit
attribute [local go_sem ↓] Go.wp_at_zero Go.wp_at_succ
set_option maxRecDepth 100000 in
set_option maxHeartbeats 8000000 in
theorem rnew_tab (s : ByteArray) (t : Int) (w : World) (hs : s.size ≤ 9223372036854775807) (T : Tab) (er : Int) (hT : newT s t = (T, er)) :
    Calls Tryz.prog 25 #[.string s, .int .i64 t] w fun e w' => ∃ v ys, e = .returned (.tuple #[.agg #[.string T.name, .int .i64 T.tracks, v], .int .i64 er]) ∧ TabO w' w.heap.size v ys T.labels ∧ (∀ y ∈ ys, y.A = none) ∧ Grew w w' := by
  have hz0 := Blk.new w 24 #[.string ⟨#[]⟩, .int .i64 0, .slice none 0 0] rfl
  have hG := (Grew.refl w).alloc (.cells #[.string ⟨#[]⟩, .int .i64 0, .slice none 0 0] 24)
  have z0 := hz0.cell 0
  have z1 := hz0.cell 1
  have z2 := hz0.cell 2
  have f0 := hz0.frozen 0
  have f1 := hz0.frozen 1
  have f2 := hz0.frozen 2
  have hlb := hz0.lt
  have HB0 := Lib.hid hz0
  have HG0 := Lib.hid hG
  have hto0 : ∀ w9, TabO w9 w.heap.size (.slice none 0 0) [] [] := fun w9 => ⟨OwnL.nil _ _ _ _, fun y hy => (by cases hy), fun y hy => (by cases hy), rfl⟩
  cases hn : nameOk s with
  | false =>
    unfold newT at hT
    rw [if_neg (fun h => by rw [hn] at h; cases h.2)] at hT
    injection hT with h1 h2
    subst h1; subst h2
    have HN := Lib.hid hn
    have HTO := Lib.hid hto0
    clear hn hto0
    go_enter Tryz.func25, Tryz.ntmps25
    go_wp2_with fail
    refine (rvalidName_any _ _ hs).mono ?_
    rintro e w1 ⟨rfl, rfl⟩
    rw [HN.out]
    go_wp2_with fail
    refine bodyPost_ret (by first | (simp [*, results, Tryz.results25, go_sem]; rfl) | simp [*, results, Tryz.results25, go_sem]) rfl ?_
    exact ⟨_, [], rfl, HTO.out _, fun y hy => (by cases hy), by (repeat' first | (with_reducible exact Grew.refl _) | (with_reducible assumption) | (with_reducible refine Grew.alloc ?_ _) | (with_reducible refine Grew.drew ?_) | (with_reducible refine Grew.drewN ?_ _) | (with_reducible refine Grew.setRow ?_ (by first | (simp; done) | (simp; omega) | omega) _) | (with_reducible refine Grew.setCell ?_ (by first | (simp; done) | (simp; omega) | omega) _) | ((with_reducible apply Grew.trans); rotate_left; (with_reducible assumption)) | ((with_reducible apply Grew.turn); rotate_left; (with_reducible assumption); (focus (intro i hi; first | omega | (simp at hi; omega)))) | fail)⟩
  | true =>
  by_cases ho : okT t = true
  rotate_left
  · unfold newT at hT
    rw [if_neg (fun h => ho h.1)] at hT
    injection hT with h1 h2
    subst h1; subst h2
    have HT0 := Lib.hid (show ttS t = 0 from by unfold ttS; rw [if_neg ho])
    have HN := Lib.hid hn
    have HTO := Lib.hid hto0
    clear ho hn hto0
    go_enter Tryz.func25, Tryz.ntmps25
    go_wp2_with fail
    refine (rvalidName_any _ _ hs).mono ?_
    rintro e w1 ⟨rfl, rfl⟩
    rw [HN.out]
    go_wp2_with fail
    refine (rtable_any _ _).mono ?_
    rintro e w1 ⟨rfl, rfl⟩
    rw [HT0.out]
    go_wp2_with fail
    refine bodyPost_ret (by first | (simp [*, results, Tryz.results25, go_sem]; rfl) | simp [*, results, Tryz.results25, go_sem]) rfl ?_
    exact ⟨_, [], rfl, HTO.out _, fun y hy => (by cases hy), by (repeat' first | (with_reducible exact Grew.refl _) | (with_reducible assumption) | (with_reducible refine Grew.alloc ?_ _) | (with_reducible refine Grew.drew ?_) | (with_reducible refine Grew.drewN ?_ _) | (with_reducible refine Grew.setRow ?_ (by first | (simp; done) | (simp; omega) | omega) _) | (with_reducible refine Grew.setCell ?_ (by first | (simp; done) | (simp; omega) | omega) _) | ((with_reducible apply Grew.trans); rotate_left; (with_reducible assumption)) | ((with_reducible apply Grew.turn); rotate_left; (with_reducible assumption); (focus (intro i hi; first | omega | (simp at hi; omega)))) | fail)⟩
  unfold newT at hT
  rw [if_pos ⟨ho, hn⟩] at hT
  injection hT with h1 h2
  subst h1; subst h2
  obtain ⟨tt, htt⟩ : ∃ tt, ttS t = tt := ⟨_, rfl⟩
  have HT0 := Lib.hid htt
  have hz : (tt == 0) = false := by
    rw [beq_eq_false_iff_ne, ← htt]
    unfold ttS
    have := okT_true ho
    rw [if_pos ho]
    omega
  obtain ⟨h1, h2⟩ := slots_nat t
  have HN := Lib.hid hn
  generalize (slotsS t).toNat = m at *
  have HSL := Lib.hid h1.symm
  have HTO := Lib.hid hto0
  have HT1 := Lib.hid ((Blk.new (w.alloc (.cells #[.string ⟨#[]⟩, .int .i64 0, .slice none 0 0] 24)) 24 #[.string s, .int .i64 t, .slice none 0 0] (n := w.heap.size + 1) (by simp)))
  have HB1 := Lib.hid (hz0.alloc (.cells #[.string s, .int .i64 t, .slice none 0 0] 24))
  have HG1 := Lib.hid (hG.alloc (.cells #[.string s, .int .i64 t, .slice none 0 0] 24))
  clear htt ho hn h1 hto0 z0 z1 z2 f0 f1 f2 hlb hz0 hG
  go_enter Tryz.func25, Tryz.ntmps25
  go_wp2_with fail
  refine (rvalidName_any _ _ hs).mono ?_
  rintro e w1 ⟨rfl, rfl⟩
  rw [HN.out]
  go_wp2_with fail
  refine (rtable_any _ _).mono ?_
  rintro e w1 ⟨rfl, rfl⟩
  rw [HT0.out]
  go_wp2_with fail
  go_loopg [7] m (fun gk i wr => ∃ (k : Nat) (v : Value) (ys : List LabE), k ≤ m ∧ gk = m - k ∧ i = .int .i64 k ∧ TabO wr (w.heap.size + 2) v ys (List.replicate k labZ) ∧ (∀ y ∈ ys, y.A = none) ∧ Blk wr (w.heap.size + 1) 24 #[.string s, .int .i64 t, v] ∧ Blk wr w.heap.size 24 #[.string ⟨#[]⟩, .int .i64 0, .slice none 0 0] ∧ Grew w wr)
  case atStart => exact ⟨0, _, [], by omega, by omega, rfl, ⟨OwnL.nil _ _ _ _, fun y hy => (by cases hy), fun y hy => (by cases hy), rfl⟩, fun y hy => (by cases hy), HT1.out, HB1.out, HG1.out⟩
  case round =>
    obtain ⟨k, v, ys, hk, hgk, rfl, hto, hnone, hbt, hb, hg⟩ := hrel
    obtain ⟨Av, cv, hv, -⟩ := hto.form
    rw [List.length_replicate] at hv
    subst hv
    have HGK := Lib.hid hgk
    have HTO := Lib.hid hto
    have HNO := Lib.hid hnone
    have HBT := Lib.hid hbt
    have HB := Lib.hid hb
    have HG := Lib.hid hg
    have hyl : (ys.map labC).length = k := by rw [List.length_map, hto.len, List.length_replicate]
    clear hgk hto hnone hb hg
    by_cases hlt : k < m
    · have x2 := hbt.cell 2
      have xf2 := hbt.frozen 2
      have hlw := hbt.lt
      have hrow := HTO.out.own.alloc (.cells #[.int .i64 0, .int .i64 0, .string ⟨#[]⟩, .string ⟨#[]⟩, .slice none 0 0] 31)
      have hgal := HG.out.alloc (.cells #[.int .i64 0, .int .i64 0, .string ⟨#[]⟩, .string ⟨#[]⟩, .slice none 0 0] 31)
      have hb2 := HB.out.alloc (.cells #[.int .i64 0, .int .i64 0, .string ⟨#[]⟩, .string ⟨#[]⟩, .slice none 0 0] 31)
      have hbt2 := hbt.alloc (.cells #[.int .i64 0, .int .i64 0, .string ⟨#[]⟩, .string ⟨#[]⟩, .slice none 0 0] 31)
      have hto2 := HTO.out.hold ((Grew.refl wr).alloc (.cells #[.int .i64 0, .int .i64 0, .string ⟨#[]⟩, .string ⟨#[]⟩, .slice none 0 0] 31))
      clear hbt
      have hlk : (k : Int) < (m : Int) := by omega
      go_wp2_with fail
      refine (rslots_any _ _).mono ?_
      rintro e w1 ⟨rfl, rfl⟩
      rw [HSL.out]
      go_wp2_with (at_builtin; refine wpList_push2 rfl _ _ 22 rfl (w.heap.size + 2) 31 5 72 _ Tryz.underlying22 info_lab rfl (by decide) _ (.slice Av k cv) (ys.map labC) (labC ⟨none, 0, labZ⟩) rfl (by rfl) hrow wr.heap.size (by rfl) (Blk.new _ _ _ rfl) rfl (by rw [hyl]; omega) (by rw [hyl]; omega) (by simp; omega) _ hyl ?_; intro g5 cap5 w5 hown5 hgr5 hat5 hg5; have hbt5 := hbt2.own hgr5 (fun hq => by have : w.heap.size + 2 ≤ w.heap.size + 1 := (hrow.own_ge hq).1; omega); have y2 := hbt5.cell 2; have yf2 := hbt5.frozen 2; have hlw5 := hbt5.lt)
      have hto5 := hto2.push ⟨none, 0, labZ⟩ hown5 hgr5 hat5 (LabAt.zero _) (fun h => absurd h (by decide))
      have hb5 := hb2.own hgr5 (fun hq => by have : w.heap.size + 2 ≤ w.heap.size := (hrow.own_ge hq).1; omega)
      have hgg5 := Grew.own hgal hgr5 hrow.row_ge (by omega)
      have hge5 : w.heap.size + 2 ≤ g5 := (hown5.own_ge (g := g5) rfl).1
      have hnn : ∀ y ∈ ys ++ [(⟨none, 0, labZ⟩ : LabE)], y.A = none := fun y hy => by
        rcases List.mem_append.1 hy with hy | hy
        · exact HNO.out y hy
        · rw [List.mem_singleton.1 hy]
      have hto6 := hto5.turned (S := fun q => q = w.heap.size + 1) ((Turned.refl (fun q => q = w.heap.size + 1) w5).setCell (p := ⟨w.heap.size + 1, 2, none⟩) (fun _ => rfl) (.slice (some ⟨g5, 0, none⟩) (k + 1) cap5)) (fun g hq => by simp only [Value.ownBlock, Option.some.injEq] at hq; omega) (fun y hy _ b off e => by rw [hnn y hy] at e; cases e)
      have hbt6 := (hbt5.set_ 2 (.slice (some ⟨g5, 0, none⟩) (k + 1) cap5)).conv (ds := #[.string s, .int .i64 t, .slice (some ⟨g5, 0, none⟩) (k + 1) cap5]) rfl
      have hb6 := hb5.far (p := ⟨w.heap.size + 1, 2, none⟩) (by show w.heap.size ≠ w.heap.size + 1; omega) (.slice (some ⟨g5, 0, none⟩) (k + 1) cap5)
      have hg6 := hgg5.setCell (p := ⟨w.heap.size + 1, 2, none⟩) (by show w.heap.size ≤ w.heap.size + 1; omega) (.slice (some ⟨g5, 0, none⟩) (k + 1) cap5)
      rw [show List.replicate k labZ ++ [labZ] = List.replicate (k + 1) labZ from List.replicate_succ'.symm] at hto6
      go_roundg (m - (k + 1))
      case measure => rw [HGK.out]; omega
      case rel => exact ⟨k + 1, _, _, by omega, by omega, by go_num, hto6, hnn, hbt6, hb6, hg6⟩
    · have hkm : k = m := by omega
      subst hkm
      have x0 := hbt.cell 0
      have x1 := hbt.cell 1
      have x2 := hbt.cell 2
      have hlw := hbt.lt
      have hz0 := HB.out
      have z0 := hz0.cell 0
      have z1 := hz0.cell 1
      have z2 := hz0.cell 2
      have f0 := hz0.frozen 0
      have f1 := hz0.frozen 1
      have f2 := hz0.frozen 2
      have hlb := hz0.lt
      clear hbt hz0
      go_wp2_with fail
      refine (rslots_any _ _).mono ?_
      rintro e w1 ⟨rfl, rfl⟩
      rw [HSL.out]
      go_wp2_with fail
      refine bodyPost_ret (by first | (simp [*, results, Tryz.results25, go_sem]; rfl) | simp [*, results, Tryz.results25, go_sem]) rfl ?_
      exact ⟨_, _, rfl, (HTO.out.turned (S := fun q => q = w.heap.size) (by (repeat' first | (with_reducible exact Turned.refl _ _) | (with_reducible assumption) | (with_reducible refine Turned.alloc ?_ _) | (with_reducible refine Turned.drew ?_) | (with_reducible refine Turned.drewN ?_ _) | (with_reducible refine Turned.setRow ?_ (by first | (simp; done) | (simp; omega) | omega) _) | (with_reducible refine Turned.setCell ?_ (by first | (simp; done) | (simp; omega) | omega) _) | ((with_reducible apply Turned.andGrew); rotate_left; (with_reducible assumption)) | ((with_reducible apply Turned.trans); rotate_left; (with_reducible assumption)) | fail)) (fun g hq => by have := (HTO.out.own.own_ge hq).1; omega) (fun y hy _ b off e => by rw [HNO.out y hy] at e; cases e)).lower (by omega), HNO.out, by have hg := HG.out; (repeat' first | (with_reducible exact Grew.refl _) | (with_reducible assumption) | (with_reducible refine Grew.alloc ?_ _) | (with_reducible refine Grew.drew ?_) | (with_reducible refine Grew.drewN ?_ _) | (with_reducible refine Grew.setRow ?_ (by first | (simp; done) | (simp; omega) | omega) _) | (with_reducible refine Grew.setCell ?_ (by first | (simp; done) | (simp; omega) | omega) _) | ((with_reducible apply Grew.trans); rotate_left; (with_reducible assumption)) | ((with_reducible apply Grew.turn); rotate_left; (with_reducible assumption); (focus (intro i hi; first | omega | (simp at hi; omega)))) | fail)⟩
set_option maxRecDepth 100000 in
set_option maxHeartbeats 8000000 in
theorem track_any (A : Option Addr) (c : Nat) (ss : List ByteArray) (n : Nat) (w : World) (h : ListAt w w.heap.size 1 A (ss.map strC)) (hl : ss.length ≤ 100000) (hz : ∀ x ∈ ss, x.size ≤ 1000) (hn : n ≤ 1000) :
    Calls Tryz.prog 78 #[.slice A ss.length c, .int .i64 n] w fun e w' => e = .returned (.string (trkS ss n)) ∧ Grew w w' := by
  have H := Lib.hid h
  have HZ := Lib.hid hz
  clear h hz
  go_enter Tryz.func78, Tryz.ntmps78
  go_wp2_with fail
  go_loopg [5, 6] 8 (fun gk sv i wr => ∃ k : Nat, k ≤ 8 ∧ gk = 8 - k ∧ i = .int .i64 ((8 * n + k : Nat) : Int) ∧ sv = .string (catS ((ss.drop (8 * n)).take k)) ∧ Grew w wr)
  case atStart => exact ⟨0, by omega, by omega, by go_num, rfl, Grew.refl _⟩
  case round =>
    obtain ⟨k, hk, hgk, rfl, rfl, hg⟩ := hrel
    have HGK := Lib.hid hgk
    have hgs := hg.size
    have HG := Lib.hid hg
    have hcs : (catS ((ss.drop (8 * n)).take k)).size ≤ 1000 * 8 := by
      have h1 := catS_size 1000 ((ss.drop (8 * n)).take k) (fun x hx => HZ.out x (List.mem_of_mem_drop (List.mem_of_mem_take hx)))
      have h2 : ((ss.drop (8 * n)).take k).length ≤ 8 := by rw [List.length_take]; omega
      exact Nat.le_trans h1 (Nat.mul_le_mul_left _ h2)
    clear hgk
    by_cases h8 : k < 8
    · by_cases hlt : 8 * n + k < ss.length
      · obtain ⟨b1, o1, rfl, hb1, hc1⟩ := H.out (by rw [List.length_map]; omega)
        obtain ⟨x, hx⟩ : ∃ x, ss[8 * n + k] = x := ⟨_, rfl⟩
        have q0 : wr.cell? ⟨b1, o1 + (8 * n + k), none⟩ = some (.string x) := by
          rw [hg.cellEq _ _ hb1]
          have := hc1 (8 * n + k) (strC x) (by rw [List.getElem?_map, List.getElem?_eq_getElem hlt, hx]; rfl) 0 _ rfl
          simpa using this
        have hxs : x.size ≤ 1000 := by rw [← hx]; exact HZ.out _ (List.getElem_mem hlt)
        have HN := Lib.hid (show catS ((ss.drop (8 * n)).take (k + 1)) = catS ((ss.drop (8 * n)).take k) ++ x from by
          rw [List.take_succ_eq_append_getElem (by rw [List.length_drop]; omega), catS_snoc, List.getElem_drop, hx])
        clear hc1 hx hg
        go_wp2_with fail
        go_roundg (8 - (k + 1))
        case measure => rw [HGK.out]; omega
        case rel => exact ⟨k + 1, by omega, by omega, by go_num, by rw [HN.out], HG.out⟩
      · have HE := Lib.hid (show catS ((ss.drop (8 * n)).take k) = trkS ss n from by
          unfold trkS
          rw [List.take_of_length_le (by rw [List.length_drop]; omega), List.take_of_length_le (by rw [List.length_drop]; omega)])
        clear hg
        go_wp2_with fail
        go_ret
        exact ⟨by rw [HE.out]; rfl, HG.out⟩
    · have hk8 : k = 8 := by omega
      subst hk8
      clear hg
      go_wp2_with fail
      go_ret
      exact ⟨rfl, HG.out⟩
end Go.Proofs.YtnlaogneceanoaaGreat
namespace Go.Proofs.YtnlaogneceanoaaGreat
set_option linter.unusedVariables false
set_option linter.unusedSimpArgs false
set_option linter.unusedSectionVars false
open Go.RowKit
attribute [local go_sem ↓] Go.wp_at_zero Go.wp_at_succ
set_option maxRecDepth 100000 in
set_option maxHeartbeats 4000000 in
theorem texts_any (A B : Option Addr) (c d : Nat) (l1 l2 : List ByteArray) (w : World) (h1 : ListAt w w.heap.size 1 A (l1.map strC)) (h2 : ListAt w w.heap.size 1 B (l2.map strC)) (hl1 : l1.length ≤ 1000000) (hl2 : l2.length ≤ 1000000) (r : Bool) (hr : decide (l1 = l2) = r) :
    Calls Tryz.prog 28 #[.slice A l1.length c, .slice B l2.length d] w fun e w' => e = .returned (.bool r) ∧ Grew w w' := by
  have H1 := Lib.hid h1
  have H2 := Lib.hid h2
  have HR := Lib.hid hr
  clear h1 h2 hr
  by_cases hll : l1.length = l2.length
  rotate_left
  · have hb : ((l1.length : Int) != (l2.length : Int)) = true := by rw [bne_iff_ne]; omega
    have HF := Lib.hid (show r = false from by rw [← HR.out]; exact decide_eq_false (fun e => hll (by rw [e])))
    clear hll
    go_enter Tryz.func28, Tryz.ntmps28
    go_wp2_with fail
    go_ret
    exact ⟨ret_bool (by rw [HF.out]), Grew.refl _⟩
  have hb : ((l1.length : Int) != (l2.length : Int)) = false := by rw [bne_eq_false_iff_eq]; omega
  have HL := Lib.hid hll
  clear hll
  go_enter Tryz.func28, Tryz.ntmps28
  go_wp2_with fail
  go_loopg [5] l1.length (fun gk i wr => ∃ k : Nat, k ≤ l1.length ∧ gk = l1.length - k ∧ i = .int .i64 k ∧ (∀ j (q1 : j < l1.length) (q2 : j < l2.length), j < k → l1[j] = l2[j]) ∧ Grew w wr)
  case atStart => exact ⟨0, by omega, by omega, rfl, fun j _ _ h => by omega, Grew.refl _⟩
  case round =>
    obtain ⟨k, hk, hgk, rfl, hall, hg⟩ := hrel
    have HGK := Lib.hid hgk
    have HA := Lib.hid hall
    have HG := Lib.hid hg
    have hgs := hg.size
    clear hgk hall hb
    by_cases hlt : k < l1.length
    · have hlu : k < l2.length := by rw [← HL.out]; exact hlt
      obtain ⟨b1, o1, rfl, hb1, hc1⟩ := H1.out (by rw [List.length_map]; omega)
      obtain ⟨b2, o2, rfl, hb2, hc2⟩ := H2.out (by rw [List.length_map]; omega)
      obtain ⟨x, hx⟩ : ∃ x, l1[k] = x := ⟨_, rfl⟩
      obtain ⟨y, hy⟩ : ∃ y, l2[k] = y := ⟨_, rfl⟩
      have q0 : wr.cell? ⟨b1, o1 + k, none⟩ = some (.string x) := by
        rw [hg.cellEq _ _ hb1]
        have := hc1 k (strC x) (by rw [List.getElem?_map, List.getElem?_eq_getElem hlt, hx]; rfl) 0 _ rfl
        simpa using this
      have p0 : wr.cell? ⟨b2, o2 + k, none⟩ = some (.string y) := by
        rw [hg.cellEq _ _ hb2]
        have := hc2 k (strC y) (by rw [List.getElem?_map, List.getElem?_eq_getElem hlu, hy]; rfl) 0 _ rfl
        simpa using this
      have hb1r := Nat.lt_of_lt_of_le hb1 hgs
      have hb2r := Nat.lt_of_lt_of_le hb2 hgs
      have hS : (fun w' : World => w'.cell? ⟨b1, o1 + k, none⟩ = some (.string x) ∧ w'.cell? ⟨b2, o2 + k, none⟩ = some (.string y)) wr.drew := ⟨q0, p0⟩
      have HX := Lib.hid hx
      have HY := Lib.hid hy
      clear hc1 hc2 hg hx hy
      by_cases he : x = y
      · have HQ := Lib.hid (show (x.toList == y.toList) = true from by rw [he, beq_iff_eq])
        have HN := Lib.hid (show ∀ j (q1 : j < l1.length) (q2 : j < l2.length), j < k + 1 → l1[j] = l2[j] from fun j q1 q2 hjk => by
          by_cases hjk' : j = k
          · subst hjk'; rw [HX.out, HY.out]; exact he
          · exact HA.out j q1 q2 (by omega))
        clear he
        go_wp2_with fail
        refine wp_region_R [] (fun w' : World => w'.cell? ⟨b1, o1 + k, none⟩ = some (.string x) ∧ w'.cell? ⟨b2, o2 + k, none⟩ = some (.string y)) (by kernel_rfl) ?_
        refine wpAnyR_takeQ (i := 0) (v := ?_) (some 17) rfl rfl (by kernel_rfl) (by kernel_rfl) (by kernel_rfl) (by kernel_rfl) (fun _ _ _ h => h) (Or.inl ⟨by rfl, ?_⟩) ?_
        rotate_left
        focus (intro wS hSw; (try dsimp only at hSw); go_simp; (try with_reducible rfl); (try (first | (rw [if_pos (by omega)]; (try go_simp); (try with_reducible rfl)) | (rw [if_neg (by omega)]; (try go_simp); (try with_reducible rfl)))))
        try simp only [Act.put, zA, zB, zC]
        refine wpAnyR_takeQ (i := 1) (v := ?_) (some 18) rfl rfl (by kernel_rfl) (by kernel_rfl) (by kernel_rfl) (by kernel_rfl) (fun _ _ _ h => h) (Or.inl ⟨by rfl, ?_⟩) ?_
        rotate_left
        focus (intro wS hSw; (try dsimp only at hSw); go_simp; (try with_reducible rfl); (try (first | (rw [if_pos (by omega)]; (try go_simp); (try with_reducible rfl)) | (rw [if_neg (by omega)]; (try go_simp); (try with_reducible rfl)))))
        try simp only [Act.put, zA, zB, zC]
        refine wpAnyR_takeQ (i := 2) (v := ?_) (some 19) rfl rfl (by kernel_rfl) (by kernel_rfl) (by kernel_rfl) (by kernel_rfl) (fun _ _ _ h => h) (Or.inl ⟨by rfl, ?_⟩) ?_
        rotate_left
        focus (intro wS hSw; (try dsimp only at hSw); go_simp; (try with_reducible rfl); (try (first | (rw [if_pos (by omega)]; (try go_simp); (try with_reducible rfl)) | (rw [if_neg (by omega)]; (try go_simp); (try with_reducible rfl)))))
        try simp only [Act.put, zA, zB, zC]
        refine wpAnyR_take (i := 3) (v := ?_) [8] (some 20) rfl rfl (by kernel_rfl) (by kernel_rfl) (by kernel_rfl) (by kernel_rfl) (by kernel_rfl) (by kernel_rfl) (by kernel_rfl) (fun _ _ _ h => h) (Or.inl ⟨by rfl, ?_⟩) hS ?_
        rotate_left
        focus (intro wS hSw; (try dsimp only at hSw); go_simp; (try with_reducible rfl); (try (first | (rw [if_pos (by omega)]; (try go_simp); (try with_reducible rfl)) | (rw [if_neg (by omega)]; (try go_simp); (try with_reducible rfl)))))
        try simp only [Act.put, zA, zB, zC]
        refine wpAnyR_takeQ (i := 4) (v := ?_) (some 21) rfl rfl (by kernel_rfl) (by kernel_rfl) (by kernel_rfl) (by kernel_rfl) (fun _ _ _ h => h) (Or.inl ⟨by rfl, ?_⟩) ?_
        rotate_left
        focus (intro wS hSw; (try dsimp only at hSw); go_simp; (try with_reducible rfl); (try (first | (rw [if_pos (by omega)]; (try go_simp); (try with_reducible rfl)) | (rw [if_neg (by omega)]; (try go_simp); (try with_reducible rfl)))))
        try simp only [Act.put, zA, zB, zC]
        refine wpAnyR_takeQ (i := 5) (v := ?_) (some 22) rfl rfl (by kernel_rfl) (by kernel_rfl) (by kernel_rfl) (by kernel_rfl) (fun _ _ _ h => h) (Or.inl ⟨by rfl, ?_⟩) ?_
        rotate_left
        focus (intro wS hSw; (try dsimp only at hSw); go_simp; (try with_reducible rfl); (try (first | (rw [if_pos (by omega)]; (try go_simp); (try with_reducible rfl)) | (rw [if_neg (by omega)]; (try go_simp); (try with_reducible rfl)))))
        try simp only [Act.put, zA, zB, zC]
        refine wpAnyR_takeQ (i := 6) (v := ?_) (some 23) rfl rfl (by kernel_rfl) (by kernel_rfl) (by kernel_rfl) (by kernel_rfl) (fun _ _ _ h => h) (Or.inl ⟨by rfl, ?_⟩) ?_
        rotate_left
        focus (intro wS hSw; (try dsimp only at hSw); go_simp; (try with_reducible rfl); (try (first | (rw [if_pos (by omega)]; (try go_simp); (try with_reducible rfl)) | (rw [if_neg (by omega)]; (try go_simp); (try with_reducible rfl)))))
        try simp only [Act.put, zA, zB, zC]
        refine wpAnyR_take (i := 7) (v := ?_) [8] (some 24) rfl rfl (by kernel_rfl) (by kernel_rfl) (by kernel_rfl) (by kernel_rfl) (by kernel_rfl) (by kernel_rfl) (by kernel_rfl) (fun _ _ _ h => h) (Or.inl ⟨by rfl, ?_⟩) hS ?_
        rotate_left
        focus (intro wS hSw; (try dsimp only at hSw); go_simp; (try with_reducible rfl); (try (first | (rw [if_pos (by omega)]; (try go_simp); (try with_reducible rfl)) | (rw [if_neg (by omega)]; (try go_simp); (try with_reducible rfl)))))
        try simp only [Act.put, zA, zB, zC]
        refine wpAnyR_takeQ (i := 8) (v := ?_) (some 25) rfl rfl (by kernel_rfl) (by kernel_rfl) (by kernel_rfl) (by kernel_rfl) (fun _ _ _ h => h) (Or.inl ⟨by rfl, ?_⟩) ?_
        rotate_left
        focus (intro wS hSw; (try dsimp only at hSw); go_simp; (try with_reducible rfl); (try (first | (rw [if_pos (by omega)]; (try go_simp); (try with_reducible rfl)) | (rw [if_neg (by omega)]; (try go_simp); (try with_reducible rfl)))))
        try simp only [Act.put, zA, zB, zC]
        try rw [HQ.out]
        refine wpAnyR_done (by kernel_rfl) ?_ _
        clear hS q0 p0
        go_wp2_with fail
        go_roundg (l1.length - (k + 1))
        case measure => rw [HGK.out]; omega
        case rel => exact ⟨k + 1, by omega, by omega, by go_num, HN.out, HG.out.drew⟩
      · have HQ := Lib.hid (show (x.toList == y.toList) = false from beq_eq_false_iff_ne.2 (fun e => he (bytes_eq (by simpa [ByteArray.toList_eq] using e))))
        have HF := Lib.hid (show r = false from by rw [← HR.out]; exact decide_eq_false (fun e => he (by rw [← HX.out, ← HY.out]; simp only [e])))
        clear he
        go_wp2_with fail
        refine wp_region_R [] (fun w' : World => w'.cell? ⟨b1, o1 + k, none⟩ = some (.string x) ∧ w'.cell? ⟨b2, o2 + k, none⟩ = some (.string y)) (by kernel_rfl) ?_
        refine wpAnyR_takeQ (i := 0) (v := ?_) (some 17) rfl rfl (by kernel_rfl) (by kernel_rfl) (by kernel_rfl) (by kernel_rfl) (fun _ _ _ h => h) (Or.inl ⟨by rfl, ?_⟩) ?_
        rotate_left
        focus (intro wS hSw; (try dsimp only at hSw); go_simp; (try with_reducible rfl); (try (first | (rw [if_pos (by omega)]; (try go_simp); (try with_reducible rfl)) | (rw [if_neg (by omega)]; (try go_simp); (try with_reducible rfl)))))
        try simp only [Act.put, zA, zB, zC]
        refine wpAnyR_takeQ (i := 1) (v := ?_) (some 18) rfl rfl (by kernel_rfl) (by kernel_rfl) (by kernel_rfl) (by kernel_rfl) (fun _ _ _ h => h) (Or.inl ⟨by rfl, ?_⟩) ?_
        rotate_left
        focus (intro wS hSw; (try dsimp only at hSw); go_simp; (try with_reducible rfl); (try (first | (rw [if_pos (by omega)]; (try go_simp); (try with_reducible rfl)) | (rw [if_neg (by omega)]; (try go_simp); (try with_reducible rfl)))))
        try simp only [Act.put, zA, zB, zC]
        refine wpAnyR_takeQ (i := 2) (v := ?_) (some 19) rfl rfl (by kernel_rfl) (by kernel_rfl) (by kernel_rfl) (by kernel_rfl) (fun _ _ _ h => h) (Or.inl ⟨by rfl, ?_⟩) ?_
        rotate_left
        focus (intro wS hSw; (try dsimp only at hSw); go_simp; (try with_reducible rfl); (try (first | (rw [if_pos (by omega)]; (try go_simp); (try with_reducible rfl)) | (rw [if_neg (by omega)]; (try go_simp); (try with_reducible rfl)))))
        try simp only [Act.put, zA, zB, zC]
        refine wpAnyR_take (i := 3) (v := ?_) [8] (some 20) rfl rfl (by kernel_rfl) (by kernel_rfl) (by kernel_rfl) (by kernel_rfl) (by kernel_rfl) (by kernel_rfl) (by kernel_rfl) (fun _ _ _ h => h) (Or.inl ⟨by rfl, ?_⟩) hS ?_
        rotate_left
        focus (intro wS hSw; (try dsimp only at hSw); go_simp; (try with_reducible rfl); (try (first | (rw [if_pos (by omega)]; (try go_simp); (try with_reducible rfl)) | (rw [if_neg (by omega)]; (try go_simp); (try with_reducible rfl)))))
        try simp only [Act.put, zA, zB, zC]
        refine wpAnyR_takeQ (i := 4) (v := ?_) (some 21) rfl rfl (by kernel_rfl) (by kernel_rfl) (by kernel_rfl) (by kernel_rfl) (fun _ _ _ h => h) (Or.inl ⟨by rfl, ?_⟩) ?_
        rotate_left
        focus (intro wS hSw; (try dsimp only at hSw); go_simp; (try with_reducible rfl); (try (first | (rw [if_pos (by omega)]; (try go_simp); (try with_reducible rfl)) | (rw [if_neg (by omega)]; (try go_simp); (try with_reducible rfl)))))
        try simp only [Act.put, zA, zB, zC]
        refine wpAnyR_takeQ (i := 5) (v := ?_) (some 22) rfl rfl (by kernel_rfl) (by kernel_rfl) (by kernel_rfl) (by kernel_rfl) (fun _ _ _ h => h) (Or.inl ⟨by rfl, ?_⟩) ?_
        rotate_left
        focus (intro wS hSw; (try dsimp only at hSw); go_simp; (try with_reducible rfl); (try (first | (rw [if_pos (by omega)]; (try go_simp); (try with_reducible rfl)) | (rw [if_neg (by omega)]; (try go_simp); (try with_reducible rfl)))))
        try simp only [Act.put, zA, zB, zC]
        refine wpAnyR_takeQ (i := 6) (v := ?_) (some 23) rfl rfl (by kernel_rfl) (by kernel_rfl) (by kernel_rfl) (by kernel_rfl) (fun _ _ _ h => h) (Or.inl ⟨by rfl, ?_⟩) ?_
        rotate_left
        focus (intro wS hSw; (try dsimp only at hSw); go_simp; (try with_reducible rfl); (try (first | (rw [if_pos (by omega)]; (try go_simp); (try with_reducible rfl)) | (rw [if_neg (by omega)]; (try go_simp); (try with_reducible rfl)))))
        try simp only [Act.put, zA, zB, zC]
        refine wpAnyR_take (i := 7) (v := ?_) [8] (some 24) rfl rfl (by kernel_rfl) (by kernel_rfl) (by kernel_rfl) (by kernel_rfl) (by kernel_rfl) (by kernel_rfl) (by kernel_rfl) (fun _ _ _ h => h) (Or.inl ⟨by rfl, ?_⟩) hS ?_
        rotate_left
        focus (intro wS hSw; (try dsimp only at hSw); go_simp; (try with_reducible rfl); (try (first | (rw [if_pos (by omega)]; (try go_simp); (try with_reducible rfl)) | (rw [if_neg (by omega)]; (try go_simp); (try with_reducible rfl)))))
        try simp only [Act.put, zA, zB, zC]
        refine wpAnyR_takeQ (i := 8) (v := ?_) (some 25) rfl rfl (by kernel_rfl) (by kernel_rfl) (by kernel_rfl) (by kernel_rfl) (fun _ _ _ h => h) (Or.inl ⟨by rfl, ?_⟩) ?_
        rotate_left
        focus (intro wS hSw; (try dsimp only at hSw); go_simp; (try with_reducible rfl); (try (first | (rw [if_pos (by omega)]; (try go_simp); (try with_reducible rfl)) | (rw [if_neg (by omega)]; (try go_simp); (try with_reducible rfl)))))
        try simp only [Act.put, zA, zB, zC]
        try rw [HQ.out]
        refine wpAnyR_done (by kernel_rfl) ?_ _
        clear hS q0 p0
        go_wp2_with fail
        go_ret
        exact ⟨ret_bool (by rw [HF.out]), HG.out.drew⟩
    · have HF := Lib.hid (show r = true from by
        rw [← HR.out]
        exact decide_eq_true (List.ext_getElem HL.out (fun j q1 q2 => HA.out j q1 q2 (by omega))))
      go_wp2_with fail
      go_ret
      exact ⟨ret_bool (by rw [HF.out]), HG.out⟩
end Go.Proofs.YtnlaogneceanoaaGreat
namespace Go.Proofs.YtnlaogneceanoaaGreat
set_option linter.unusedVariables false
set_option linter.unusedSimpArgs false
set_option linter.unusedSectionVars false
open Go.RowKit
attribute [local go_sem ↓] Go.wp_at_zero Go.wp_at_succ
theorem zeroB_iff (s : ByteArray) (hs : s.size = 1024) : zeroB s = true ↔ s = padS 1024 ⟨#[]⟩ := by
  have e4 : (padS 1024 ⟨#[]⟩).data.toList = List.replicate 1024 0 := by
    unfold padS zeros
    simp only [ByteArray.data_append, Array.toList_append, Array.toList_replicate]
    rfl
  have hl : s.data.toList.length = 1024 := by rw [Array.length_toList]; exact hs
  constructor
  · intro h
    apply bytes_eq
    rw [e4]
    unfold zeroB at h
    refine List.eq_replicate_iff.2 ⟨hl, fun x hx => ?_⟩
    exact beq_iff_eq.1 (List.all_eq_true.1 h x hx)
  · rintro rfl
    unfold zeroB
    rw [e4, List.all_eq_true]
    intro x hx
    rw [List.eq_of_mem_replicate hx]
    rfl
theorem rdK_okm (m : Int) (m0 : 0 ≤ m) (m1 : m ≤ 128) (s : ByteArray) (e : Int) (k : Nat) : ∀ r ∈ (rdK m s e k).1, okRun r := by
  induction k with
  | zero => intro r hr; cases hr
  | succ k ih =>
    intro r hr
    rcases List.mem_append.1 hr with hr | hr
    · exact ih r hr
    · rw [List.mem_singleton.1 hr]
      have h1 := RCnt_bd (rdK m s e k).2.1 (rdK m s e k).2.2 m (by omega)
      have h2 := RCnt_bd (RCnt (rdK m s e k).2.1 (rdK m s e k).2.2 m).2.1 (RCnt (rdK m s e k).2.1 (rdK m s e k).2.2 m).2.2 128 (by omega)
      exact ⟨by show -9223372036854775808 ≤ ((_ : Nat) : Int); omega, by show ((_ : Nat) : Int) ≤ 9223372036854775807; omega, by show -9223372036854775808 ≤ ((_ : Nat) : Int); omega, by show ((_ : Nat) : Int) ≤ 9223372036854775807; omega⟩
set_option maxRecDepth 100000 in
set_option maxHeartbeats 4000000 in
theorem rdecode_lab (s : ByteArray) (t : Int) (w : World) (hs : s.size ≤ 100000) (t0 : -9223372036854775808 ≤ t) (t1 : t ≤ 9223372036854775807) :
    Calls Tryz.prog 79 #[.string s, .int .i64 t] w (DecR w (rdecP s t)) := by
  have g0 := (Grew.refl w).alloc (.cells #[.int .i64 0, .int .i64 0, .string ⟨#[]⟩, .string ⟨#[]⟩, .slice none 0 0] 31)
  have HG0 := Lib.hid g0
  have HB0 := Lib.hid (Blk.new w 31 #[.int .i64 0, .int .i64 0, .string ⟨#[]⟩, .string ⟨#[]⟩, .slice none 0 0] rfl)
  clear g0
  by_cases hz : s.size = 1024
  rotate_left
  · have hzi : ((s.size : Int) != 1024) = true := by rw [bne_iff_ne]; omega
    have HE := Lib.hid (show rdecP s t = (labZ, 11) from by unfold rdecP; rw [if_pos (.inl hz)])
    clear hz
    go_enter Tryz.func79, Tryz.ntmps79
    go_wp2_with fail
    refine bodyPost_ret (by first | (simp [*, results, Tryz.results79, go_sem]; rfl) | simp [*, results, Tryz.results79, go_sem]) rfl ?_
    rw [HE.out]
    exact decZ _ _ _ (by (repeat' first | (with_reducible exact Grew.refl _) | (with_reducible assumption) | (with_reducible refine Grew.alloc ?_ _) | (with_reducible refine Grew.drew ?_) | (with_reducible refine Grew.drewN ?_ _) | (with_reducible refine Grew.setRow ?_ (by first | (simp; done) | (simp; omega) | omega) _) | (with_reducible refine Grew.setCell ?_ (by first | (simp; done) | (simp; omega) | omega) _) | ((with_reducible apply Grew.trans); rotate_left; (with_reducible assumption)) | ((with_reducible apply Grew.turn); rotate_left; (with_reducible assumption); (focus (intro i hi; first | omega | (simp at hi; omega)))) | fail))
  have hzi : ((s.size : Int) != 1024) = false := by rw [bne_eq_false_iff_eq]; omega
  cases ho : okT t with
  | false =>
    have HO := Lib.hid ho
    have HE := Lib.hid (show rdecP s t = (labZ, 11) from by unfold rdecP; rw [if_pos (.inr ho)])
    clear ho hz
    go_enter Tryz.func79, Tryz.ntmps79
    go_wp2_with fail
    refine (rvalid_any _ _).mono ?_
    rintro e w1 ⟨rfl, rfl⟩
    rw [HO.out]
    go_wp2_with fail
    refine bodyPost_ret (by first | (simp [*, results, Tryz.results79, go_sem]; rfl) | simp [*, results, Tryz.results79, go_sem]) rfl ?_
    rw [HE.out]
    exact decZ _ _ _ (by (repeat' first | (with_reducible exact Grew.refl _) | (with_reducible assumption) | (with_reducible refine Grew.alloc ?_ _) | (with_reducible refine Grew.drew ?_) | (with_reducible refine Grew.drewN ?_ _) | (with_reducible refine Grew.setRow ?_ (by first | (simp; done) | (simp; omega) | omega) _) | (with_reducible refine Grew.setCell ?_ (by first | (simp; done) | (simp; omega) | omega) _) | ((with_reducible apply Grew.trans); rotate_left; (with_reducible assumption)) | ((with_reducible apply Grew.turn); rotate_left; (with_reducible assumption); (focus (intro i hi; first | omega | (simp at hi; omega)))) | fail))
  | true =>
    have HO := Lib.hid ho
    cases hq : zeroB s with
    | true =>
      have HQ := Lib.hid hq
      have HE := Lib.hid (show rdecP s t = (labZ, 0) from by unfold rdecP; rw [if_neg (by rw [ho]; simp [hz]), if_pos ((zeroB_iff s hz).1 hq)])
      clear ho hz hq
      go_enter Tryz.func79, Tryz.ntmps79
      go_wp2_with fail
      refine (rvalid_any _ _).mono ?_
      rintro e w1 ⟨rfl, rfl⟩
      rw [HO.out]
      go_wp2_with fail
      refine (zero_any _ _ (by omega)).mono ?_
      rintro e w2 ⟨rfl, rfl⟩
      rw [HQ.out]
      go_wp2_with fail
      refine bodyPost_ret (by first | (simp [*, results, Tryz.results79, go_sem]; rfl) | simp [*, results, Tryz.results79, go_sem]) rfl ?_
      rw [HE.out]
      exact decZ _ _ _ (by (repeat' first | (with_reducible exact Grew.refl _) | (with_reducible assumption) | (with_reducible refine Grew.alloc ?_ _) | (with_reducible refine Grew.drew ?_) | (with_reducible refine Grew.drewN ?_ _) | (with_reducible refine Grew.setRow ?_ (by first | (simp; done) | (simp; omega) | omega) _) | (with_reducible refine Grew.setCell ?_ (by first | (simp; done) | (simp; omega) | omega) _) | ((with_reducible apply Grew.trans); rotate_left; (with_reducible assumption)) | ((with_reducible apply Grew.turn); rotate_left; (with_reducible assumption); (focus (intro i hi; first | omega | (simp at hi; omega)))) | fail))
    | false =>
      have HQ := Lib.hid hq
      have HEE := Lib.hid (show rdecP s t = if rE 127 s ≠ 0 ∨ encS (rL 127 s) t ≠ s then (labZ, 11) else (rL 127 s, 0) from by
        unfold rdecP; rw [if_neg (by rw [ho]; simp [hz]), if_neg (fun e => by rw [(zeroB_iff s hz).2 e] at hq; cases hq)])
      have hsz1 : s.size ≤ 1024 := by omega
      clear ho hq hz
      obtain ⟨w0, hw0⟩ : ∃ w0, w0 = (w.alloc (.cells #[.int .i64 0, .int .i64 0, .string ⟨#[]⟩, .string ⟨#[]⟩, .slice none 0 0] 31)) := ⟨_, rfl⟩
      have hw0s : w0.heap.size = w.heap.size + 1 := by rw [hw0]; simp
      go_enter Tryz.func79, Tryz.ntmps79
      go_wp2_with fail
      refine (rvalid_any _ _).mono ?_
      rintro e w1 ⟨rfl, rfl⟩
      rw [HO.out]
      go_wp2_with fail
      refine (zero_any _ _ (by omega)).mono ?_
      rintro e w2 ⟨rfl, rfl⟩
      rw [HQ.out]
      rw [← hw0] at HG0 HB0
      have hb6 : Blk (w0.alloc (.cells #[.string s, .int .i64 0] 132)) (w.heap.size + 1) 132 #[.string s, .int .i64 0] := Blk.new w0 _ _ hw0s.symm
      have hG := (Grew.refl w0).alloc (.cells #[.string s, .int .i64 0] 132)
      obtain ⟨⟨i1, s1, e1⟩, hX1⟩ : ∃ X, RCnt s 0 1099511627776 = X := ⟨_, rfl⟩
      have HX1 := Lib.hid hX1
      have zz := RCnt_size s 0 1099511627776
      rw [hX1] at zz
      have zs1 : s1.size ≤ 1024 := Nat.le_trans zz (by omega)
      have C := fun w => refReadCount_any s 0 1099511627776 w (by omega) (by omega) (by omega)
      rw [hX1] at C
      have bi1 := RCnt_bd s 0 1099511627776 (by omega)
      rw [hX1] at bi1
      have bi1 : (i1 : Int) ≤ 1099511627776 := bi1
      clear hX1 zz
      go_wp2_with fail
      refine (C _).mono ?_
      rintro e w1 ⟨rfl, gq⟩
      rw [← hw0] at gq
      replace hG := hG.trans gq
      replace hb6 := hb6.grew gq
      clear C gq
      have z0 := hb6.cell 0
      have z1 := hb6.cell 1
      have f0 := hb6.frozen 0
      have f1 := hb6.frozen 1
      have hlb := hb6.lt
      have hG' := (hG.setCell (p := ⟨w.heap.size + 1, 0, none⟩) (by show w0.heap.size ≤ w.heap.size + 1; omega) (.string s1)).setCell (p := ⟨w.heap.size + 1, 1, none⟩) (by show w0.heap.size ≤ w.heap.size + 1; omega) (.int .i64 e1)
      have hb6' := ((hb6.set_ 0 (.string s1)).set_ 1 (.int .i64 e1)).conv (ds := #[.string s1, .int .i64 e1]) rfl
      have hGs := hG'
      have hbs := hb6'
      clear hG' hb6' hG hb6
      have hG := hGs
      have hb6 := hbs
      clear hGs hbs
      obtain ⟨⟨u1, s2, e2⟩, hX2⟩ : ∃ X, RCnt s1 e1 1099511627776 = X := ⟨_, rfl⟩
      have HX2 := Lib.hid hX2
      have zz := RCnt_size s1 e1 1099511627776
      rw [hX2] at zz
      have zs2 : s2.size ≤ 1024 := Nat.le_trans zz (by omega)
      have C := fun w => refReadCount_any s1 e1 1099511627776 w (by omega) (by omega) (by omega)
      rw [hX2] at C
      have bu1 := RCnt_bd s1 e1 1099511627776 (by omega)
      rw [hX2] at bu1
      have bu1 : (u1 : Int) ≤ 1099511627776 := bu1
      clear hX2 zz
      go_wp2_with fail
      refine (C _).mono ?_
      rintro e w2 ⟨rfl, gq⟩

      replace hG := hG.trans gq
      replace hb6 := hb6.grew gq
      clear C gq
      have z0 := hb6.cell 0
      have z1 := hb6.cell 1
      have f0 := hb6.frozen 0
      have f1 := hb6.frozen 1
      have hlb := hb6.lt
      have hG' := (hG.setCell (p := ⟨w.heap.size + 1, 0, none⟩) (by show w0.heap.size ≤ w.heap.size + 1; omega) (.string s2)).setCell (p := ⟨w.heap.size + 1, 1, none⟩) (by show w0.heap.size ≤ w.heap.size + 1; omega) (.int .i64 e2)
      have hb6' := ((hb6.set_ 0 (.string s2)).set_ 1 (.int .i64 e2)).conv (ds := #[.string s2, .int .i64 e2]) rfl
      have hGs := hG'
      have hbs := hb6'
      clear hG' hb6' hG hb6
      have hG := hGs
      have hb6 := hbs
      clear hGs hbs
      obtain ⟨⟨n1, s3, e3⟩, hX3⟩ : ∃ X, RTxt s2 e2 31 = X := ⟨_, rfl⟩
      have HX3 := Lib.hid hX3
      have zz := RTxt_size s2 e2 31
      rw [hX3] at zz
      have zs3 : s3.size ≤ 1024 := Nat.le_trans zz (by omega)
      have C := fun w => refReadText_any s2 e2 31 w (by omega) (by omega) (by omega)
      rw [hX3] at C
      have bn1 := RTxt_sz s2 e2 31
      rw [hX3] at bn1
      have bn1 : n1.size ≤ 1024 := Nat.le_trans bn1 (by omega)
      clear hX3 zz
      go_wp2_with fail
      refine (C _).mono ?_
      rintro e w3 ⟨rfl, gq⟩

      replace hG := hG.trans gq
      replace hb6 := hb6.grew gq
      clear C gq
      have z0 := hb6.cell 0
      have z1 := hb6.cell 1
      have f0 := hb6.frozen 0
      have f1 := hb6.frozen 1
      have hlb := hb6.lt
      have hG' := (hG.setCell (p := ⟨w.heap.size + 1, 0, none⟩) (by show w0.heap.size ≤ w.heap.size + 1; omega) (.string s3)).setCell (p := ⟨w.heap.size + 1, 1, none⟩) (by show w0.heap.size ≤ w.heap.size + 1; omega) (.int .i64 e3)
      have hb6' := ((hb6.set_ 0 (.string s3)).set_ 1 (.int .i64 e3)).conv (ds := #[.string s3, .int .i64 e3]) rfl
      have hGs := hG'
      have hbs := hb6'
      clear hG' hb6' hG hb6
      have hG := hGs
      have hb6 := hbs
      clear hGs hbs
      obtain ⟨⟨o1, s4, e4⟩, hX4⟩ : ∃ X, RTxt s3 e3 400 = X := ⟨_, rfl⟩
      have HX4 := Lib.hid hX4
      have zz := RTxt_size s3 e3 400
      rw [hX4] at zz
      have zs4 : s4.size ≤ 1024 := Nat.le_trans zz (by omega)
      have C := fun w => refReadText_any s3 e3 400 w (by omega) (by omega) (by omega)
      rw [hX4] at C
      have bo1 := RTxt_sz s3 e3 400
      rw [hX4] at bo1
      have bo1 : o1.size ≤ 1024 := Nat.le_trans bo1 (by omega)
      clear hX4 zz
      go_wp2_with fail
      refine (C _).mono ?_
      rintro e w4 ⟨rfl, gq⟩

      replace hG := hG.trans gq
      replace hb6 := hb6.grew gq
      clear C gq
      have z0 := hb6.cell 0
      have z1 := hb6.cell 1
      have f0 := hb6.frozen 0
      have f1 := hb6.frozen 1
      have hlb := hb6.lt
      have hG' := (hG.setCell (p := ⟨w.heap.size + 1, 0, none⟩) (by show w0.heap.size ≤ w.heap.size + 1; omega) (.string s4)).setCell (p := ⟨w.heap.size + 1, 1, none⟩) (by show w0.heap.size ≤ w.heap.size + 1; omega) (.int .i64 e4)
      have hb6' := ((hb6.set_ 0 (.string s4)).set_ 1 (.int .i64 e4)).conv (ds := #[.string s4, .int .i64 e4]) rfl
      have hGs := hG'
      have hbs := hb6'
      clear hG' hb6' hG hb6
      have hG := hGs
      have hb6 := hbs
      clear hGs hbs
      obtain ⟨⟨c5, s5, e5⟩, hX5⟩ : ∃ X, RCnt s4 e4 16 = X := ⟨_, rfl⟩
      have HX5 := Lib.hid hX5
      have zz := RCnt_size s4 e4 16
      rw [hX5] at zz
      have zs5 : s5.size ≤ 1024 := Nat.le_trans zz (by omega)
      have C := fun w => refReadCount_any s4 e4 16 w (by omega) (by omega) (by omega)
      rw [hX5] at C
      have bc5 := RCnt_bd s4 e4 16 (by omega)
      rw [hX5] at bc5
      have bc5 : (c5 : Int) ≤ 16 := bc5
      clear hX5 zz
      go_wp2_with fail
      refine (C _).mono ?_
      rintro e w5 ⟨rfl, gq⟩

      replace hG := hG.trans gq
      replace hb6 := hb6.grew gq
      clear C gq
      have z0 := hb6.cell 0
      have z1 := hb6.cell 1
      have f0 := hb6.frozen 0
      have f1 := hb6.frozen 1
      have hlb := hb6.lt
      have hG' := (hG.setCell (p := ⟨w.heap.size + 1, 0, none⟩) (by show w0.heap.size ≤ w.heap.size + 1; omega) (.string s5)).setCell (p := ⟨w.heap.size + 1, 1, none⟩) (by show w0.heap.size ≤ w.heap.size + 1; omega) (.int .i64 e5)
      have hb6' := ((hb6.set_ 0 (.string s5)).set_ 1 (.int .i64 e5)).conv (ds := #[.string s5, .int .i64 e5]) rfl
      go_wp2_with fail
      have h5s : w0.heap.size < w5.heap.size := by have := hb6.lt; omega
      have hl12 : Blk _ w5.heap.size 31 #[.int .i64 (i1 : Int), .int .i64 (u1 : Int), .string n1, .string o1, .slice none 0 0] := Blk.new ((w5.setCell ⟨w.heap.size + 1, 0, none⟩ (.string s5)).setCell ⟨w.heap.size + 1, 1, none⟩ (.int .i64 e5)) _ _ (by simp)
      have hb12 := hb6'.alloc (.cells #[.int .i64 (i1 : Int), .int .i64 (u1 : Int), .string n1, .string o1, .slice none 0 0] 31)
      have hG12 := hG'.alloc (.cells #[.int .i64 (i1 : Int), .int .i64 (u1 : Int), .string n1, .string o1, .slice none 0 0] 31)
      clear z0 z1 f0 f1 hlb hG' hb6' hG hb6
      go_loopg [13] c5 (fun gk i wr => ∃ (k : Nat) (v : Value) (L : List (Int × Int)) (sk : ByteArray) (ek : Int), k ≤ c5 ∧ gk = c5 - k ∧ i = .int .i64 k ∧ rdK 127 s5 e5 k = (L, sk, ek) ∧ OwnL wr (w5.heap.size + 1) 65 2 v (L.map runC) ∧ Blk wr w5.heap.size 31 #[.int .i64 (i1 : Int), .int .i64 (u1 : Int), .string n1, .string o1, v] ∧ Blk wr (w.heap.size + 1) 132 #[.string sk, .int .i64 ek] ∧ Grew w0 wr)
      case atStart => exact ⟨0, .slice none 0 0, [], s5, e5, by omega, by omega, rfl, rfl, OwnL.nil _ _ _ _, hl12, hb12, hG12⟩
      clear hl12 hb12 hG12
      case round =>
        obtain ⟨k, v, L, sk, ek, hk, hgk, rfl, hrk, hown, hbl, hrd, hgw⟩ := hrel
        have HGK := Lib.hid hgk
        have HRK := Lib.hid hrk
        have hln : L.length = k := by have := rdK_len 127 s5 e5 k; rw [hrk] at this; exact this
        have hsk : sk.size ≤ 1024 := by have := rdK_size 127 s5 e5 k; rw [hrk] at this; exact Nat.le_trans this zs5
        have HOK := Lib.hid (show ∀ r ∈ L, okRun r from by have := rdK_okm 127 (by omega) (by omega) s5 e5 k; rw [hrk] at this; exact this)
        obtain ⟨A, cv, hv, hlc, hcc, hla0⟩ := hown.listAt
        have HLA0 := Lib.hid hla0
        clear hla0
        rw [List.length_map, hln] at hv hlc
        subst hv
        clear hgk hrk
        have z0 := hrd.cell 0
        have z1 := hrd.cell 1
        have hlw := hbl.lt
        by_cases hlt : k < c5
        · obtain ⟨⟨a1, sa, ea⟩, hXA⟩ : ∃ X, RCnt sk ek 127 = X := ⟨_, rfl⟩
          obtain ⟨⟨b1, sb, eb⟩, hXB⟩ : ∃ X, RCnt sa ea 128 = X := ⟨_, rfl⟩
          have HNX := Lib.hid (rdK_next HRK.out hXA hXB)
          have zz := RCnt_size sk ek 127
          rw [hXA] at zz
          have zsa : sa.size ≤ 1024 := Nat.le_trans zz (by omega)
          have CA := fun w => refReadCount_any sk ek 127 w (by omega) (by omega) (by omega)
          rw [hXA] at CA
          have CB := fun w => refReadCount_any sa ea 128 w (by omega) (by omega) (by omega)
          rw [hXB] at CB
          have ba1 := RCnt_bd sk ek 127 (by omega)
          rw [hXA] at ba1
          have ba1 : (a1 : Int) ≤ 127 := ba1
          have bb1 := RCnt_bd sa ea 128 (by omega)
          rw [hXB] at bb1
          have bb1 : (b1 : Int) ≤ 128 := bb1
          clear hXA hXB zz
          go_wp2_with fail
          refine (CA _).mono ?_
          rintro e wa ⟨rfl, ga⟩
          have ga' := ga.alloc (.cells #[.string sa, .int .i64 ea] 132)
          have hsa : wr.heap.size ≤ wa.heap.size := ga.size
          clear z0 z1
          go_wp2_with fail
          refine (CB _).mono ?_
          rintro e wb ⟨rfl, gb⟩
          have hsb : wa.heap.size + 1 ≤ wb.heap.size := by have := gb.size; simp at this; omega
          have gab := ga'.trans gb
          have hrb := hrd.grew gab
          have hlb := hbl.grew gab
          have hob := hown.grew gab
          have hgb := hgw.trans gab
          have z0 := hrb.cell 0
          have z1 := hrb.cell 1
          have f0 := hrb.frozen 0
          have f1 := hrb.frozen 1
          have x4 := hlb.cell 4
          have hrl := hrb.lt
          have hll := hlb.lt
          have hno : (Value.slice A k cv).ownBlock ≠ some (w.heap.size + 1) := fun hq => by have : w5.heap.size + 1 ≤ w.heap.size + 1 := (hown.own_ge hq).1; omega
          have hnl : (Value.slice A k cv).ownBlock ≠ some w5.heap.size := fun hq => by have : w5.heap.size + 1 ≤ w5.heap.size := (hown.own_ge hq).1; omega
          have hoW := ((hob.far (p := ⟨w.heap.size + 1, 0, none⟩) hno (.string sb)).far (p := ⟨w.heap.size + 1, 1, none⟩) hno (.int .i64 eb)).alloc (.cells #[.string sb, .int .i64 eb] 132)
          have hlW := ((hlb.far (p := ⟨w.heap.size + 1, 0, none⟩) (by show w5.heap.size ≠ w.heap.size + 1; omega) (.string sb)).far (p := ⟨w.heap.size + 1, 1, none⟩) (by show w5.heap.size ≠ w.heap.size + 1; omega) (.int .i64 eb)).alloc (.cells #[.string sb, .int .i64 eb] 132)
          have hrW := (((hrb.set_ 0 (.string sb)).set_ 1 (.int .i64 eb)).conv (ds := #[.string sb, .int .i64 eb]) rfl).alloc (.cells #[.string sb, .int .i64 eb] 132)
          have hgW := ((hgb.setCell (p := ⟨w.heap.size + 1, 0, none⟩) (by show w0.heap.size ≤ w.heap.size + 1; omega) (.string sb)).setCell (p := ⟨w.heap.size + 1, 1, none⟩) (by show w0.heap.size ≤ w.heap.size + 1; omega) (.int .i64 eb)).alloc (.cells #[.string sb, .int .i64 eb] 132)
          go_wp2_with (at_builtin; refine wpList_push rfl _ _ 29 rfl (w5.heap.size + 1) 65 2 16 _ Tryz.underlying29 info_run rfl (by decide) (((wb.setCell ⟨w.heap.size + 1, 0, none⟩ (.string sb)).setCell ⟨w.heap.size + 1, 1, none⟩ (.int .i64 eb)).alloc (.cells #[.string sb, .int .i64 eb] 132)) _ (L.map runC) (runC ((a1 : Int), (b1 : Int))) (by rfl) rfl rfl hoW (by first | rfl | (simp; done)) rfl rfl (by rw [List.length_map]; omega) (by rw [List.length_map]; omega) (by simp; omega) ?_; intro v' w7 hown7 hgr hbk hsz; obtain ⟨A', c', hv', -, -, -⟩ := hown7.listAt; rw [show (L.map runC ++ [runC ((a1 : Int), (b1 : Int))]).length = k + 1 from by simp [hln]] at hv'; subst hv'; have hl7 := hbk _ _ _ hlW hnl; have hr7 := hbk _ _ _ hrW hno; have g7 := hgr _ hgW (by omega); have q4 := hl7.cell 4; have qf4 := hl7.frozen 4; have ql := hl7.lt)
          have hn7 : (Value.slice A' (k + 1) c').ownBlock ≠ some w5.heap.size := fun hq => by have : w5.heap.size + 1 ≤ w5.heap.size := (hown7.own_ge hq).1; omega
          have ho8 := hown7.far (p := ⟨w5.heap.size, 4, none⟩) hn7 (.slice A' (k + 1) c')
          have hl8 := (hl7.set_ 4 (.slice A' (k + 1) c')).conv (ds := #[.int .i64 (i1 : Int), .int .i64 (u1 : Int), .string n1, .string o1, .slice A' (k + 1) c']) rfl
          have hr8 := hr7.far (p := ⟨w5.heap.size, 4, none⟩) (by show w.heap.size + 1 ≠ w5.heap.size; omega) (.slice A' (k + 1) c')
          have g8 := g7.setCell (p := ⟨w5.heap.size, 4, none⟩) (by show w0.heap.size ≤ w5.heap.size; omega) (.slice A' (k + 1) c')
          go_roundg (c5 - (k + 1))
          case measure => rw [HGK.out]; omega
          case rel => exact ⟨k + 1, _, _, sb, eb, by omega, by omega, by go_num, HNX.out, by rw [List.map_append]; exact ho8, hl8, hr8, g8⟩
        · obtain rfl : k = c5 := by omega
          have q1 : rI s = (i1, s1, e1) := HX1.out
          have q2 : rU s = (u1, s2, e2) := by unfold rU; rw [q1]; exact HX2.out
          have q3 : rN s = (n1, s3, e3) := by unfold rN; rw [q2]; exact HX3.out
          have q4 : rT s = (o1, s4, e4) := by unfold rT; rw [q3]; exact HX4.out
          have q5 : rC s = (k, s5, e5) := by unfold rC; rw [q4]; exact HX5.out
          have HRL := Lib.hid (show rL 127 s = ⟨(i1 : Int), (u1 : Int), n1, o1, L⟩ ∧ rE 127 s = ek from ⟨by unfold rL; rw [q1, q2, q3, q4, q5]; simp only [HRK.out], by unfold rE; rw [q5]; simp only [HRK.out]⟩)
          subst hln
          have HLA := Lib.hid (show LabAt wr A cv ⟨(i1 : Int), (u1 : Int), n1, o1, L⟩ from ⟨by show -9223372036854775808 ≤ ((_ : Nat) : Int); omega, by show ((_ : Nat) : Int) ≤ 9223372036854775807; omega, by show -9223372036854775808 ≤ ((_ : Nat) : Int); omega, by show ((_ : Nat) : Int) ≤ 9223372036854775807; omega, by show n1.size ≤ _; omega, by show o1.size ≤ _; omega, ⟨HOK.out, HLA0.out⟩, hlc, hcc⟩)
          have x0 := hbl.cell 0
          have x1 := hbl.cell 1
          have x2 := hbl.cell 2
          have x3 := hbl.cell 3
          have x4 := hbl.cell 4
          have HBL := Lib.hid hbl
          have HB1 := Lib.hid (HB0.out.grew hgw)
          have hGr := Lib.hid (HG0.out.trans hgw)
          have HOW := Lib.hid hown
          have hlr := hrd.lt
          clear hbl hown hrd q1 q2 q3 q4 q5
          by_cases he : ek = 0
          rotate_left
          · have hei : (ek != 0) = true := by rw [bne_iff_ne]; exact he
            have HE := Lib.hid (show rdecP s t = (labZ, 11) from by rw [HEE.out, HRL.out.2, if_pos (.inl he)])
            have hb2 := HB1.out
            have y0 := hb2.cell 0
            have v0 := hb2.frozen 0
            have y1 := hb2.cell 1
            have v1 := hb2.frozen 1
            have y2 := hb2.cell 2
            have v2 := hb2.frozen 2
            have y3 := hb2.cell 3
            have v3 := hb2.frozen 3
            have y4 := hb2.cell 4
            have v4 := hb2.frozen 4
            have hlb2 := hb2.lt
            have hgv := hGr.out
            go_wp2_with fail
            refine bodyPost_ret (by first | (simp [*, results, Tryz.results79, go_sem]; rfl) | simp [*, results, Tryz.results79, go_sem]) rfl ?_
            rw [HE.out]
            exact decZ _ _ _ (by (repeat' first | (with_reducible exact Grew.refl _) | (with_reducible assumption) | (with_reducible refine Grew.alloc ?_ _) | (with_reducible refine Grew.drew ?_) | (with_reducible refine Grew.drewN ?_ _) | (with_reducible refine Grew.setRow ?_ (by first | (simp; done) | (simp; omega) | omega) _) | (with_reducible refine Grew.setCell ?_ (by first | (simp; done) | (simp; omega) | omega) _) | ((with_reducible apply Grew.trans); rotate_left; (with_reducible assumption)) | ((with_reducible apply Grew.turn); rotate_left; (with_reducible assumption); (focus (intro i hi; first | omega | (simp at hi; omega)))) | fail))
          · subst he
            have CE := fun w h => rencode_lab A cv ⟨(i1 : Int), (u1 : Int), n1, o1, L⟩ t w h (by show L.length ≤ 100000; omega) t0 t1
            obtain ⟨EE, hEE⟩ : ∃ EE, encS ⟨(i1 : Int), (u1 : Int), n1, o1, L⟩ t = EE := ⟨_, rfl⟩
            rw [hEE] at CE
            have HEQ := Lib.hid hEE
            by_cases hes : EE = s
            · have HE := Lib.hid (show rdecP s t = (⟨(i1 : Int), (u1 : Int), n1, o1, L⟩, 0) from by rw [HEE.out, HRL.out.1, HRL.out.2, HEQ.out, hes]; simp)
              rw [hes] at CE
              clear hEE hes
              go_wp2_with fail
              refine (CE _ HLA.out).mono ?_
              rintro e we ⟨rfl, ge⟩
              have HBW := Lib.hid (HBL.out.grew ge)
              have hlx := HBW.out.lt
              clear x0 x1 x2 x3 x4 z0 z1
              have x0 := HBW.out.cell 0
              have x1 := HBW.out.cell 1
              have x2 := HBW.out.cell 2
              have x3 := HBW.out.cell 3
              have x4 := HBW.out.cell 4
              have hb2 := HB1.out.grew ge
              have y0 := hb2.cell 0
              have v0 := hb2.frozen 0
              have y1 := hb2.cell 1
              have v1 := hb2.frozen 1
              have y2 := hb2.cell 2
              have v2 := hb2.frozen 2
              have y3 := hb2.cell 3
              have v3 := hb2.frozen 3
              have y4 := hb2.cell 4
              have v4 := hb2.frozen 4
              have hlb2 := hb2.lt
              go_wp2_with fail
              refine bodyPost_ret (by first | (simp [*, results, Tryz.results79, go_sem]; rfl) | simp [*, results, Tryz.results79, go_sem]) rfl ?_
              rw [HE.out]
              have hgv := hGr.out.trans ge
              have hT := ((((((ge.turned (fun q => q = w.heap.size)).setCell (p := ⟨w.heap.size, 0, none⟩) (fun _ => rfl) (.int .i64 (i1 : Int))).setCell (p := ⟨w.heap.size, 1, none⟩) (fun _ => rfl) (.int .i64 (u1 : Int))).setCell (p := ⟨w.heap.size, 2, none⟩) (fun _ => rfl) (.string n1)).setCell (p := ⟨w.heap.size, 3, none⟩) (fun _ => rfl) (.string o1)).setCell (p := ⟨w.heap.size, 4, none⟩) (fun _ => rfl) (.slice A L.length cv))
              have hk := HOW.out.kept hT (fun q hq hqg => by have : w5.heap.size + 1 ≤ q := (HOW.out.own_ge hq).1; omega)
              obtain ⟨A', c', hv', -, -, hl'⟩ := hk.listAt
              rw [List.length_map] at hv'
              simp only [Value.slice.injEq] at hv'
              obtain ⟨rfl, -, rfl⟩ := hv'
              exact ⟨A, cv, rfl, ⟨HLA.out.id0, HLA.out.id1, HLA.out.unit0, HLA.out.unit1, HLA.out.name, HLA.out.note, ⟨HOK.out, hl'⟩, HLA.out.len, HLA.out.cap⟩, by (repeat' first | (with_reducible exact Grew.refl _) | (with_reducible assumption) | (with_reducible refine Grew.alloc ?_ _) | (with_reducible refine Grew.drew ?_) | (with_reducible refine Grew.drewN ?_ _) | (with_reducible refine Grew.setRow ?_ (by first | (simp; done) | (simp; omega) | omega) _) | (with_reducible refine Grew.setCell ?_ (by first | (simp; done) | (simp; omega) | omega) _) | ((with_reducible apply Grew.trans); rotate_left; (with_reducible assumption)) | ((with_reducible apply Grew.turn); rotate_left; (with_reducible assumption); (focus (intro i hi; first | omega | (simp at hi; omega)))) | fail), fun b off e => by have : w5.heap.size + 1 ≤ b := (HOW.out.own_ge (g := b) (by rw [e]; rfl)).1; omega⟩
            · have HE := Lib.hid (show rdecP s t = (labZ, 11) from by rw [HEE.out, HRL.out.1, HRL.out.2, HEQ.out]; simp [hes])
              have hns := str_ne hes
              clear hEE hes
              go_wp2_with fail
              refine (CE _ HLA.out).mono ?_
              rintro e we ⟨rfl, ge⟩
              clear x0 x1 x2 x3 x4 z0 z1
              have hb2 := HB1.out.grew ge
              have y0 := hb2.cell 0
              have v0 := hb2.frozen 0
              have y1 := hb2.cell 1
              have v1 := hb2.frozen 1
              have y2 := hb2.cell 2
              have v2 := hb2.frozen 2
              have y3 := hb2.cell 3
              have v3 := hb2.frozen 3
              have y4 := hb2.cell 4
              have v4 := hb2.frozen 4
              have hlb2 := hb2.lt
              go_wp2_with fail
              refine bodyPost_ret (by first | (simp [*, results, Tryz.results79, go_sem]; rfl) | simp [*, results, Tryz.results79, go_sem]) rfl ?_
              rw [HE.out]
              have hgv := hGr.out.trans ge
              exact decZ _ _ _ (by (repeat' first | (with_reducible exact Grew.refl _) | (with_reducible assumption) | (with_reducible refine Grew.alloc ?_ _) | (with_reducible refine Grew.drew ?_) | (with_reducible refine Grew.drewN ?_ _) | (with_reducible refine Grew.setRow ?_ (by first | (simp; done) | (simp; omega) | omega) _) | (with_reducible refine Grew.setCell ?_ (by first | (simp; done) | (simp; omega) | omega) _) | ((with_reducible apply Grew.trans); rotate_left; (with_reducible assumption)) | ((with_reducible apply Grew.turn); rotate_left; (with_reducible assumption); (focus (intro i hi; first | omega | (simp at hi; omega)))) | fail))
end Go.Proofs.YtnlaogneceanoaaGreat
