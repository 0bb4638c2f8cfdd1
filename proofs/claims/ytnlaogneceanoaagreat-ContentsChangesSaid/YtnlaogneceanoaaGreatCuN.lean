/- Chapter 8: the reference's Create. Chapter 8: a change by its number, on both sides. Chapter 8: a table as an argument; Few. Chapter 8: the references of a table: their comparison, the sort by it. Chapter 8, plain: what Confirm does to the labels of a valid table. -/
import Derived.Shelf.SlSortCmp.NoneTotal
import Derived.Shelf.SlSortCmp.WholeK
import Derived.Test.YtnlaogneceanoaaGreatCuA
import Derived.Test.YtnlaogneceanoaaGreatCuB
import Derived.Test.YtnlaogneceanoaaGreatCuD
import Derived.Test.YtnlaogneceanoaaGreatCuH
import Derived.Test.YtnlaogneceanoaaGreatCuJ
import Derived.Test.YtnlaogneceanoaaGreatCuL
import Derived.Test.YtnlaogneceanoaaGreatCuM
namespace Go.Proofs.YtnlaogneceanoaaGreat
set_option linter.unusedVariables false
set_option linter.unusedSimpArgs false
set_option linter.unusedSectionVars false
open Go.RowKit
attribute [local go_sem ↓] Go.wp_at_zero Go.wp_at_succ
/-- The first empty slot from p on, or -1. -/
def SlotR (ls : List Lab) (p : Nat) (s : Int) : Prop :=
  (s = -1 ∧ ∀ j (hj : j < ls.length), p ≤ j → emL ls[j] = false) ∨ (∃ q : Nat, s = (q : Int) ∧ p ≤ q ∧ ∃ hq : q < ls.length, emL ls[q] = true ∧ ∀ j (hj : j < ls.length), p ≤ j → j < q → emL ls[j] = false)
theorem SlotR.start (ls : List Lab) : SlotR ls ls.length (-1) := .inl ⟨rfl, fun j hj h => by omega⟩
theorem SlotR.keep {ls : List Lab} {q : Nat} {s : Int} (h : SlotR ls (q + 1) s) (hq : q < ls.length) (he : emL ls[q] = false) : SlotR ls q s := by
  rcases h with ⟨h1, h2⟩ | ⟨k, h1, h2, h3, h4, h5⟩
  · refine .inl ⟨h1, fun j hj hjq => ?_⟩
    by_cases e : j = q
    · subst e; exact he
    · exact h2 j hj (by omega)
  · refine .inr ⟨k, h1, by omega, h3, h4, fun j hj hjq hjk => ?_⟩
    by_cases e : j = q
    · subst e; exact he
    · exact h5 j hj (by omega) hjk
theorem SlotR.hit {ls : List Lab} {q : Nat} (hq : q < ls.length) (he : emL ls[q] = true) : SlotR ls q (q : Int) := .inr ⟨q, rfl, Nat.le_refl _, hq, he, fun j hj h1 h2 => by omega⟩
theorem SlotR.done {ls : List Lab} {s : Int} (h : SlotR ls 0 s) : idxP emL ls = s := by
  rcases h with ⟨h1, h2⟩ | ⟨k, h1, h2, h3, h4, h5⟩
  · rw [h1]; exact idxP_none _ _ (fun j hj => h2 j hj (by omega))
  · rw [h1]; exact idxP_hit _ _ k h3 h4 (fun j hj hjk => h5 j hj (by omega) hjk)
theorem SlotR.form0 {ls : List Lab} {s : Int} (h : SlotR ls 0 s) : s = -1 ∨ ∃ k : Nat, s = (k : Int) ∧ k < ls.length := by
  rcases h with ⟨h1, _⟩ | ⟨k, h1, _, h3, _⟩
  · exact .inl h1
  · exact .inr ⟨k, h1, h3⟩
section
variable (A : Option Addr) (c : Nat) (xs : List LabE) (T : Tab) (id unit : Int) (w : World)
set_option maxRecDepth 100000 in
set_option maxHeartbeats 32000000 in
theorem rcreate_tab (h : TabAt w A c xs T) (hs : SmallT T) (nm nt : ByteArray) (hns : nm.size ≤ 9223372036854775807) (hts : nt.size ≤ 9223372036854775807) (n : Int) (n0 : -9223372036854775808 ≤ n) (n1 : n ≤ 9223372036854775807) (T' : Tab) (er : Int) (hr : createT T id unit nm nt n = (T', er)) :
    Calls Tryz.prog 68 #[.agg #[.string T.name, .int .i64 T.tracks, .slice A T.labels.length c], .agg #[.int .i64 id, .int .i64 unit], .string nm, .string nt, .int .i64 n] w (TabR w T' er) := by
  have hg0 := ((((Grew.refl w).alloc (.cells #[.string T.name, .int .i64 T.tracks, .slice A T.labels.length c] 24)).alloc (.cells #[.int .i64 id, .int .i64 unit] 26))).alloc (.cells #[.string ⟨#[]⟩, .int .i64 0, .slice none 0 0] 24)
  have hb0 := ((Blk.new w 24 #[.string T.name, .int .i64 T.tracks, .slice A T.labels.length c] rfl).alloc (.cells #[.int .i64 id, .int .i64 unit] 26)).alloc (.cells #[.string ⟨#[]⟩, .int .i64 0, .slice none 0 0] 24)
  have hr0 := (Blk.new (w.alloc (.cells #[.string T.name, .int .i64 T.tracks, .slice A T.labels.length c] 24)) 26 #[.int .i64 id, .int .i64 unit] (n := w.heap.size + 1) (by simp)).alloc (.cells #[.string ⟨#[]⟩, .int .i64 0, .slice none 0 0] 24)
  have hz0 := Blk.new ((w.alloc (.cells #[.string T.name, .int .i64 T.tracks, .slice A T.labels.length c] 24)).alloc (.cells #[.int .i64 id, .int .i64 unit] 26)) 24 #[.string ⟨#[]⟩, .int .i64 0, .slice none 0 0] (n := w.heap.size + 1 + 1) (by simp)
  have HV := Lib.hid (rvalid_tab A c xs T _ (h.hold hg0) hs _ rfl)
  have HTB := Lib.hid h
  have HS := Lib.hid hs
  have HG0 := Lib.hid hg0
  have HB0 := Lib.hid hb0
  have HRF := Lib.hid hr0
  have HZ0 := Lib.hid hz0
  clear h hs hg0 hb0 hr0 hz0
  cases hv : validT T with
  | false =>
    have hx : createT T id unit nm nt n = (tabZ, 1) := by unfold createT; rw [if_neg (fun h => by rw [hv] at h; cases h.1)]
    rw [hx] at hr
    injection hr with e1 e2
    subst e1; subst e2
    have HVF := Lib.hid hv
    clear hv hx
    go_enter Tryz.func68, Tryz.ntmps68
    go_wp2_with fail
    refine HV.out.mono ?_
    rintro e w1 ⟨rfl, g1⟩
    rw [HVF.out]
    have hr1 := HRF.out.grew g1
    have r0 := hr1.cell 0
    have r1 := hr1.cell 1
    have hrl := hr1.lt
    have hz1 := HZ0.out.grew g1
    have hzl := hz1.lt
    have z0 := hz1.cell 0
    have z1 := hz1.cell 1
    have z2 := hz1.cell 2
    have f0 := hz1.frozen 0
    have f1 := hz1.frozen 1
    have f2 := hz1.frozen 2
    have hg1 := HG0.out.trans g1
    clear hz1 hr1 g1
    go_wp2_with fail
    refine bodyPost_ret (by first | (simp [*, results, Tryz.results68, go_sem]; rfl) | simp [*, results, Tryz.results68, go_sem]) rfl ?_
    exact ⟨none, 0, [], rfl, TabAt.zero _, by (repeat' first | (with_reducible exact Grew.refl _) | (with_reducible assumption) | (with_reducible refine Grew.alloc ?_ _) | (with_reducible refine Grew.drew ?_) | (with_reducible refine Grew.drewN ?_ _) | (with_reducible refine Grew.setRow ?_ (by first | (simp; done) | (simp; omega) | omega) _) | (with_reducible refine Grew.setCell ?_ (by first | (simp; done) | (simp; omega) | omega) _) | ((with_reducible apply Grew.trans); rotate_left; (with_reducible assumption)) | ((with_reducible apply Grew.turn); rotate_left; (with_reducible assumption); (focus (intro i hi; first | omega | (simp at hi; omega)))) | fail)⟩
  | true =>
  have HX1 := Lib.hid (show ¬ okNew id unit nm nt n → createT T id unit nm nt n = (tabZ, 1) from fun hn => by unfold createT; rw [if_neg (fun h => hn h.2)])
  have HX2 := Lib.hid (show okNew id unit nm nt n → createT T id unit nm nt n = (if T.labels.any (tentL id) = true then (tabZ, 5) else if idxP emL T.labels < 0 then (tabZ, 8) else if (allocS (memS (freeT T)) n 16).2 = 0 then ({ T with labels := T.labels.set (idxP emL T.labels).toNat ⟨id, unit, nm, nt, ints (allocS (memS (freeT T)) n 16).1⟩ }, 0) else (tabZ, 14)) from fun hn => by unfold createT; rw [if_pos ⟨hv, hn⟩])
  have HVF := Lib.hid hv
  clear hv
  by_cases a1 : 1 ≤ id
  rotate_left
  · have HE := Lib.hid (HX1.out (fun hc => a1 hc.1))
    rw [HE.out] at hr
    injection hr with e1 e2
    subst e1; subst e2
    go_enter Tryz.func68, Tryz.ntmps68
    go_wp2_with fail
    refine HV.out.mono ?_
    rintro e w1 ⟨rfl, g1⟩
    rw [HVF.out]
    have hr1 := HRF.out.grew g1
    have r0 := hr1.cell 0
    have r1 := hr1.cell 1
    have hrl := hr1.lt
    have hz1 := HZ0.out.grew g1
    have hzl := hz1.lt
    have z0 := hz1.cell 0
    have z1 := hz1.cell 1
    have z2 := hz1.cell 2
    have f0 := hz1.frozen 0
    have f1 := hz1.frozen 1
    have f2 := hz1.frozen 2
    have hg1 := HG0.out.trans g1
    clear hz1 hr1 g1
    go_wp2_with fail
    refine bodyPost_ret (by first | (simp [*, results, Tryz.results68, go_sem]; rfl) | simp [*, results, Tryz.results68, go_sem]) rfl ?_
    exact ⟨none, 0, [], rfl, TabAt.zero _, by (repeat' first | (with_reducible exact Grew.refl _) | (with_reducible assumption) | (with_reducible refine Grew.alloc ?_ _) | (with_reducible refine Grew.drew ?_) | (with_reducible refine Grew.drewN ?_ _) | (with_reducible refine Grew.setRow ?_ (by first | (simp; done) | (simp; omega) | omega) _) | (with_reducible refine Grew.setCell ?_ (by first | (simp; done) | (simp; omega) | omega) _) | ((with_reducible apply Grew.trans); rotate_left; (with_reducible assumption)) | ((with_reducible apply Grew.turn); rotate_left; (with_reducible assumption); (focus (intro i hi; first | omega | (simp at hi; omega)))) | fail)⟩
  by_cases a2 : id ≤ 1099511627776
  rotate_left
  · have HE := Lib.hid (HX1.out (fun hc => a2 hc.2.1))
    rw [HE.out] at hr
    injection hr with e1 e2
    subst e1; subst e2
    go_enter Tryz.func68, Tryz.ntmps68
    go_wp2_with fail
    refine HV.out.mono ?_
    rintro e w1 ⟨rfl, g1⟩
    rw [HVF.out]
    have hr1 := HRF.out.grew g1
    have r0 := hr1.cell 0
    have r1 := hr1.cell 1
    have hrl := hr1.lt
    have hz1 := HZ0.out.grew g1
    have hzl := hz1.lt
    have z0 := hz1.cell 0
    have z1 := hz1.cell 1
    have z2 := hz1.cell 2
    have f0 := hz1.frozen 0
    have f1 := hz1.frozen 1
    have f2 := hz1.frozen 2
    have hg1 := HG0.out.trans g1
    clear hz1 hr1 g1
    go_wp2_with fail
    refine bodyPost_ret (by first | (simp [*, results, Tryz.results68, go_sem]; rfl) | simp [*, results, Tryz.results68, go_sem]) rfl ?_
    exact ⟨none, 0, [], rfl, TabAt.zero _, by (repeat' first | (with_reducible exact Grew.refl _) | (with_reducible assumption) | (with_reducible refine Grew.alloc ?_ _) | (with_reducible refine Grew.drew ?_) | (with_reducible refine Grew.drewN ?_ _) | (with_reducible refine Grew.setRow ?_ (by first | (simp; done) | (simp; omega) | omega) _) | (with_reducible refine Grew.setCell ?_ (by first | (simp; done) | (simp; omega) | omega) _) | ((with_reducible apply Grew.trans); rotate_left; (with_reducible assumption)) | ((with_reducible apply Grew.turn); rotate_left; (with_reducible assumption); (focus (intro i hi; first | omega | (simp at hi; omega)))) | fail)⟩
  by_cases a3 : 1 ≤ unit
  rotate_left
  · have HE := Lib.hid (HX1.out (fun hc => a3 hc.2.2.1))
    rw [HE.out] at hr
    injection hr with e1 e2
    subst e1; subst e2
    go_enter Tryz.func68, Tryz.ntmps68
    go_wp2_with fail
    refine HV.out.mono ?_
    rintro e w1 ⟨rfl, g1⟩
    rw [HVF.out]
    have hr1 := HRF.out.grew g1
    have r0 := hr1.cell 0
    have r1 := hr1.cell 1
    have hrl := hr1.lt
    have hz1 := HZ0.out.grew g1
    have hzl := hz1.lt
    have z0 := hz1.cell 0
    have z1 := hz1.cell 1
    have z2 := hz1.cell 2
    have f0 := hz1.frozen 0
    have f1 := hz1.frozen 1
    have f2 := hz1.frozen 2
    have hg1 := HG0.out.trans g1
    clear hz1 hr1 g1
    go_wp2_with fail
    refine bodyPost_ret (by first | (simp [*, results, Tryz.results68, go_sem]; rfl) | simp [*, results, Tryz.results68, go_sem]) rfl ?_
    exact ⟨none, 0, [], rfl, TabAt.zero _, by (repeat' first | (with_reducible exact Grew.refl _) | (with_reducible assumption) | (with_reducible refine Grew.alloc ?_ _) | (with_reducible refine Grew.drew ?_) | (with_reducible refine Grew.drewN ?_ _) | (with_reducible refine Grew.setRow ?_ (by first | (simp; done) | (simp; omega) | omega) _) | (with_reducible refine Grew.setCell ?_ (by first | (simp; done) | (simp; omega) | omega) _) | ((with_reducible apply Grew.trans); rotate_left; (with_reducible assumption)) | ((with_reducible apply Grew.turn); rotate_left; (with_reducible assumption); (focus (intro i hi; first | omega | (simp at hi; omega)))) | fail)⟩
  by_cases a4 : unit ≤ 1099511627776
  rotate_left
  · have HE := Lib.hid (HX1.out (fun hc => a4 hc.2.2.2.1))
    rw [HE.out] at hr
    injection hr with e1 e2
    subst e1; subst e2
    go_enter Tryz.func68, Tryz.ntmps68
    go_wp2_with fail
    refine HV.out.mono ?_
    rintro e w1 ⟨rfl, g1⟩
    rw [HVF.out]
    have hr1 := HRF.out.grew g1
    have r0 := hr1.cell 0
    have r1 := hr1.cell 1
    have hrl := hr1.lt
    have hz1 := HZ0.out.grew g1
    have hzl := hz1.lt
    have z0 := hz1.cell 0
    have z1 := hz1.cell 1
    have z2 := hz1.cell 2
    have f0 := hz1.frozen 0
    have f1 := hz1.frozen 1
    have f2 := hz1.frozen 2
    have hg1 := HG0.out.trans g1
    clear hz1 hr1 g1
    go_wp2_with fail
    refine bodyPost_ret (by first | (simp [*, results, Tryz.results68, go_sem]; rfl) | simp [*, results, Tryz.results68, go_sem]) rfl ?_
    exact ⟨none, 0, [], rfl, TabAt.zero _, by (repeat' first | (with_reducible exact Grew.refl _) | (with_reducible assumption) | (with_reducible refine Grew.alloc ?_ _) | (with_reducible refine Grew.drew ?_) | (with_reducible refine Grew.drewN ?_ _) | (with_reducible refine Grew.setRow ?_ (by first | (simp; done) | (simp; omega) | omega) _) | (with_reducible refine Grew.setCell ?_ (by first | (simp; done) | (simp; omega) | omega) _) | ((with_reducible apply Grew.trans); rotate_left; (with_reducible assumption)) | ((with_reducible apply Grew.turn); rotate_left; (with_reducible assumption); (focus (intro i hi; first | omega | (simp at hi; omega)))) | fail)⟩
  by_cases a5 : nm.size ≤ 31
  rotate_left
  · have HE := Lib.hid (HX1.out (fun hc => a5 hc.2.2.2.2.1))
    have a5i : ¬ (nm.size : Int) ≤ 31 := by omega
    rw [HE.out] at hr
    injection hr with e1 e2
    subst e1; subst e2
    go_enter Tryz.func68, Tryz.ntmps68
    go_wp2_with fail
    refine HV.out.mono ?_
    rintro e w1 ⟨rfl, g1⟩
    rw [HVF.out]
    have hr1 := HRF.out.grew g1
    have r0 := hr1.cell 0
    have r1 := hr1.cell 1
    have hrl := hr1.lt
    have hz1 := HZ0.out.grew g1
    have hzl := hz1.lt
    have z0 := hz1.cell 0
    have z1 := hz1.cell 1
    have z2 := hz1.cell 2
    have f0 := hz1.frozen 0
    have f1 := hz1.frozen 1
    have f2 := hz1.frozen 2
    have hg1 := HG0.out.trans g1
    clear hz1 hr1 g1
    go_wp2_with fail
    refine bodyPost_ret (by first | (simp [*, results, Tryz.results68, go_sem]; rfl) | simp [*, results, Tryz.results68, go_sem]) rfl ?_
    exact ⟨none, 0, [], rfl, TabAt.zero _, by (repeat' first | (with_reducible exact Grew.refl _) | (with_reducible assumption) | (with_reducible refine Grew.alloc ?_ _) | (with_reducible refine Grew.drew ?_) | (with_reducible refine Grew.drewN ?_ _) | (with_reducible refine Grew.setRow ?_ (by first | (simp; done) | (simp; omega) | omega) _) | (with_reducible refine Grew.setCell ?_ (by first | (simp; done) | (simp; omega) | omega) _) | ((with_reducible apply Grew.trans); rotate_left; (with_reducible assumption)) | ((with_reducible apply Grew.turn); rotate_left; (with_reducible assumption); (focus (intro i hi; first | omega | (simp at hi; omega)))) | fail)⟩
  have a5i : (nm.size : Int) ≤ 31 := by omega
  by_cases a6 : nt.size ≤ 400
  rotate_left
  · have HE := Lib.hid (HX1.out (fun hc => a6 hc.2.2.2.2.2.1))
    have a6i : ¬ (nt.size : Int) ≤ 400 := by omega
    rw [HE.out] at hr
    injection hr with e1 e2
    subst e1; subst e2
    go_enter Tryz.func68, Tryz.ntmps68
    go_wp2_with fail
    refine HV.out.mono ?_
    rintro e w1 ⟨rfl, g1⟩
    rw [HVF.out]
    have hr1 := HRF.out.grew g1
    have r0 := hr1.cell 0
    have r1 := hr1.cell 1
    have hrl := hr1.lt
    have hz1 := HZ0.out.grew g1
    have hzl := hz1.lt
    have z0 := hz1.cell 0
    have z1 := hz1.cell 1
    have z2 := hz1.cell 2
    have f0 := hz1.frozen 0
    have f1 := hz1.frozen 1
    have f2 := hz1.frozen 2
    have hg1 := HG0.out.trans g1
    clear hz1 hr1 g1
    go_wp2_with fail
    refine bodyPost_ret (by first | (simp [*, results, Tryz.results68, go_sem]; rfl) | simp [*, results, Tryz.results68, go_sem]) rfl ?_
    exact ⟨none, 0, [], rfl, TabAt.zero _, by (repeat' first | (with_reducible exact Grew.refl _) | (with_reducible assumption) | (with_reducible refine Grew.alloc ?_ _) | (with_reducible refine Grew.drew ?_) | (with_reducible refine Grew.drewN ?_ _) | (with_reducible refine Grew.setRow ?_ (by first | (simp; done) | (simp; omega) | omega) _) | (with_reducible refine Grew.setCell ?_ (by first | (simp; done) | (simp; omega) | omega) _) | ((with_reducible apply Grew.trans); rotate_left; (with_reducible assumption)) | ((with_reducible apply Grew.turn); rotate_left; (with_reducible assumption); (focus (intro i hi; first | omega | (simp at hi; omega)))) | fail)⟩
  have a6i : (nt.size : Int) ≤ 400 := by omega
  by_cases a7 : 1 ≤ n
  rotate_left
  · have HE := Lib.hid (HX1.out (fun hc => a7 hc.2.2.2.2.2.2))
    rw [HE.out] at hr
    injection hr with e1 e2
    subst e1; subst e2
    go_enter Tryz.func68, Tryz.ntmps68
    go_wp2_with fail
    refine HV.out.mono ?_
    rintro e w1 ⟨rfl, g1⟩
    rw [HVF.out]
    have hr1 := HRF.out.grew g1
    have r0 := hr1.cell 0
    have r1 := hr1.cell 1
    have hrl := hr1.lt
    have hz1 := HZ0.out.grew g1
    have hzl := hz1.lt
    have z0 := hz1.cell 0
    have z1 := hz1.cell 1
    have z2 := hz1.cell 2
    have f0 := hz1.frozen 0
    have f1 := hz1.frozen 1
    have f2 := hz1.frozen 2
    have hg1 := HG0.out.trans g1
    clear hz1 hr1 g1
    go_wp2_with fail
    refine bodyPost_ret (by first | (simp [*, results, Tryz.results68, go_sem]; rfl) | simp [*, results, Tryz.results68, go_sem]) rfl ?_
    exact ⟨none, 0, [], rfl, TabAt.zero _, by (repeat' first | (with_reducible exact Grew.refl _) | (with_reducible assumption) | (with_reducible refine Grew.alloc ?_ _) | (with_reducible refine Grew.drew ?_) | (with_reducible refine Grew.drewN ?_ _) | (with_reducible refine Grew.setRow ?_ (by first | (simp; done) | (simp; omega) | omega) _) | (with_reducible refine Grew.setCell ?_ (by first | (simp; done) | (simp; omega) | omega) _) | ((with_reducible apply Grew.trans); rotate_left; (with_reducible assumption)) | ((with_reducible apply Grew.turn); rotate_left; (with_reducible assumption); (focus (intro i hi; first | omega | (simp at hi; omega)))) | fail)⟩
  have d1 : decide (id < 1) = false := decide_eq_false (by omega)
  have d2 : decide (1099511627776 < id) = false := decide_eq_false (by omega)
  have d3 : decide (unit < 1) = false := decide_eq_false (by omega)
  have d4 : decide (1099511627776 < unit) = false := decide_eq_false (by omega)
  have d5 : decide (31 < (nm.size : Int)) = false := decide_eq_false (by omega)
  have d6 : decide (400 < (nt.size : Int)) = false := decide_eq_false (by omega)
  have d7 : decide (n < 1) = false := decide_eq_false (by omega)
  rw [HX2.out ⟨a1, a2, a3, a4, a5, a6, a7⟩] at hr
  have HUN := Lib.hid (fun l hl => ((validT_facts T HVF.out).2.2 l hl).2)
  have HR5 := Lib.hid (show T.labels.any (tentL id) = true → (tabZ, (5 : Int)) = (T', er) from fun ht => by rw [if_pos ht] at hr; exact hr)
  have HRN := Lib.hid (show T.labels.any (tentL id) = false → (if idxP emL T.labels < 0 then (tabZ, (8 : Int)) else if (allocS (memS (freeT T)) n 16).2 = 0 then ({ T with labels := T.labels.set (idxP emL T.labels).toNat ⟨id, unit, nm, nt, ints (allocS (memS (freeT T)) n 16).1⟩ }, 0) else (tabZ, 14)) = (T', er) from fun ht => by rw [if_neg (by rw [ht]; simp)] at hr; exact hr)
  have HLT := Lib.hid HTB.out.xlen
  have hll := HS.out.len
  have HFR := Lib.hid (fun w1 (hg : Grew w w1) kf hk => rfree_tab (A := A) (c := c) (xs := xs) (T := T) (w := w1) (HTB.out.hold hg) HS.out _ rfl kf hk)
  clear hr
  go_enter Tryz.func68, Tryz.ntmps68
  go_wp2_with fail
  refine HV.out.mono ?_
  rintro e w1 ⟨rfl, g1⟩
  rw [HVF.out]
  have HR1 := Lib.hid (HRF.out.grew g1)
  have HZ1 := Lib.hid (HZ0.out.grew g1)
  have HB1 := Lib.hid (HB0.out.grew g1)
  have HG1 := Lib.hid (HG0.out.trans g1)
  have r0 := HR1.out.cell 0
  have r1 := HR1.out.cell 1
  have hrl := HR1.out.lt
  have b2 := HB1.out.cell 2
  have hbl := HB1.out.lt
  clear g1
  go_wp2_with fail
  go_loopg [12, 13] T.labels.length (fun gk sv iv wr => ∃ (p : Nat) (s i : Int), p ≤ T.labels.length ∧ gk = p ∧ iv = .int .i64 i ∧ i = (p : Int) - 1 ∧ sv = .int .i64 s ∧ SlotR T.labels p s ∧ (∀ j (hj : j < T.labels.length), p ≤ j → tentL id T.labels[j] = false) ∧ Blk wr w.heap.size 24 #[.string T.name, .int .i64 T.tracks, .slice A T.labels.length c] ∧ Blk wr (w.heap.size + 1) 26 #[.int .i64 id, .int .i64 unit] ∧ Blk wr (w.heap.size + 1 + 1) 24 #[.string ⟨#[]⟩, .int .i64 0, .slice none 0 0] ∧ Grew w wr)
  case atStart => exact ⟨T.labels.length, -1, (T.labels.length : Int) - 1, by omega, by omega, by go_num, rfl, by go_num, SlotR.start _, fun j hj h => by omega, HB1.out, HR1.out, HZ1.out, HG1.out⟩
  case round =>
    obtain ⟨p, s, i, hp, hgk, rfl, hi, rfl, hsl, hnt, hb, hr, hz, hg⟩ := hrel
    have HGK := Lib.hid hgk
    have HSL := Lib.hid hsl
    have HNT := Lib.hid hnt
    have HG := Lib.hid hg
    have HB := Lib.hid hb
    have HR := Lib.hid hr
    have HZ := Lib.hid hz
    clear r0 r1 hrl b2 hbl hgk hsl hnt
    have x2 := hb.cell 2
    have hbl0 := hb.lt
    have y0 := hr.cell 0
    have hrl0 := hr.lt
    by_cases hp0 : 0 < p
    · obtain ⟨q, rfl⟩ : ∃ q, p = q + 1 := ⟨p - 1, by omega⟩
      have hi' : i = (q : Int) := by omega
      subst hi'
      have hlt : q < T.labels.length := by omega
      have hqi : (q : Int) < (T.labels.length : Int) := by omega
      obtain ⟨b, off, B, d, l, rfl, hbl, hxk, hv, hla, c0, c1, c2, c3, c4⟩ := (HTB.out.hold hg).at_ hlt
      have hun := HUN.out T.labels[q] (List.getElem_mem hlt)
      have hle := HS.out.ext T.labels[q] (List.getElem_mem hlt)
      rw [hv] at hun hle
      have HV1 := Lib.hid hv
      have HLA := Lib.hid hla
      have HLE := Lib.hid hle
      have HTL := Lib.hid (show tentL id l = ((l.id == id) && decide (0 < l.unit)) from rfl)
      have hS : (fun w' : World => w'.cell? ⟨w.heap.size, 2, none⟩ = some (.slice (some ⟨b, off, none⟩) T.labels.length c) ∧ w'.cell? ⟨w.heap.size + 1, 0, none⟩ = some (.int .i64 id) ∧ w'.cell? ⟨b, off + q * 5, none⟩ = some (.int .i64 l.id) ∧ w'.cell? ⟨b, off + q * 5 + 1, none⟩ = some (.int .i64 l.unit)) wr.drew := ⟨x2, y0, c0, c1⟩
      have C0 := Lib.hid c0
      have C1 := Lib.hid c1
      have C2 := Lib.hid c2
      have C3 := Lib.hid c3
      have C4 := Lib.hid c4
      have hBL := hbl
      clear hv hxk hla hb hr hz hg hi hle
      cases b1 : (l.id == id) with
      | false =>
        have HNX := Lib.hid (show ∀ j (hj : j < T.labels.length), q ≤ j → tentL id T.labels[j] = false from fun j hj hjq => by
          by_cases hjq' : j = q
          · subst hjq'; rw [HV1.out, HTL.out]; rw [b1]; rfl
          · exact HNT.out j hj (by omega))
        have HC1 := Lib.hid b1
        clear b1
        go_wp2_with fail
        refine wp_region_R [] (fun w' : World => w'.cell? ⟨w.heap.size, 2, none⟩ = some (.slice (some ⟨b, off, none⟩) T.labels.length c) ∧ w'.cell? ⟨w.heap.size + 1, 0, none⟩ = some (.int .i64 id) ∧ w'.cell? ⟨b, off + q * 5, none⟩ = some (.int .i64 l.id) ∧ w'.cell? ⟨b, off + q * 5 + 1, none⟩ = some (.int .i64 l.unit)) (by kernel_rfl) ?_
        refine wpAnyR_takeQ (i := 0) (v := ?_) (some 62) rfl rfl (by kernel_rfl) (by kernel_rfl) (by kernel_rfl) (by kernel_rfl) (fun _ _ _ h => h) (Or.inl ⟨by rfl, ?_⟩) ?_
        rotate_left
        focus (intro wS hSw; (try dsimp only at hSw); go_simp; (try with_reducible rfl); (try (first | (rw [if_pos (by omega)]; (try go_simp); (try with_reducible rfl)) | (rw [if_neg (by omega)]; (try go_simp); (try with_reducible rfl)))))
        try simp only [Act.put, zA, zB, zC]
        refine wpAnyR_take (i := 1) (v := ?_) [3, 4, 5, 8, 9, 10, 11, 12, 13, 14, 15, 16, 17] (some 63) rfl rfl (by kernel_rfl) (by kernel_rfl) (by kernel_rfl) (by kernel_rfl) (by kernel_rfl) (by kernel_rfl) (by kernel_rfl) (fun _ _ _ h => h) (Or.inl ⟨by rfl, ?_⟩) hS ?_
        rotate_left
        focus (intro wS hSw; (try dsimp only at hSw); go_simp; (try with_reducible rfl); (try (first | (rw [if_pos (by omega)]; (try go_simp); (try with_reducible rfl)) | (rw [if_neg (by omega)]; (try go_simp); (try with_reducible rfl)))))
        try simp only [Act.put, zA, zB, zC]
        refine wpAnyR_takeQ (i := 2) (v := ?_) (some 64) rfl rfl (by kernel_rfl) (by kernel_rfl) (by kernel_rfl) (by kernel_rfl) (fun _ _ _ h => h) (Or.inl ⟨by rfl, ?_⟩) ?_
        rotate_left
        focus (intro wS hSw; (try dsimp only at hSw); go_simp; (try with_reducible rfl); (try (first | (rw [if_pos (by omega)]; (try go_simp); (try with_reducible rfl)) | (rw [if_neg (by omega)]; (try go_simp); (try with_reducible rfl)))))
        try simp only [Act.put, zA, zB, zC]
        refine wpAnyR_takeQ (i := 3) (v := ?_) (some 65) rfl rfl (by kernel_rfl) (by kernel_rfl) (by kernel_rfl) (by kernel_rfl) (fun _ _ _ h => h) (Or.inl ⟨by rfl, ?_⟩) ?_
        rotate_left
        focus (intro wS hSw; (try dsimp only at hSw); go_simp; (try with_reducible rfl); (try (first | (rw [if_pos (by omega)]; (try go_simp); (try with_reducible rfl)) | (rw [if_neg (by omega)]; (try go_simp); (try with_reducible rfl)))))
        try simp only [Act.put, zA, zB, zC]
        refine wpAnyR_takeQ (i := 4) (v := ?_) (some 66) rfl rfl (by kernel_rfl) (by kernel_rfl) (by kernel_rfl) (by kernel_rfl) (fun _ _ _ h => h) (Or.inl ⟨by rfl, ?_⟩) ?_
        rotate_left
        focus (intro wS hSw; (try dsimp only at hSw); go_simp; (try with_reducible rfl); (try (first | (rw [if_pos (by omega)]; (try go_simp); (try with_reducible rfl)) | (rw [if_neg (by omega)]; (try go_simp); (try with_reducible rfl)))))
        try simp only [Act.put, zA, zB, zC]
        refine wpAnyR_take (i := 5) (v := ?_) [8, 9, 10, 11, 12, 13, 14, 15, 16, 17] (some 67) rfl rfl (by kernel_rfl) (by kernel_rfl) (by kernel_rfl) (by kernel_rfl) (by kernel_rfl) (by kernel_rfl) (by kernel_rfl) (fun _ _ _ h => h) (Or.inl ⟨by rfl, ?_⟩) hS ?_
        rotate_left
        focus (intro wS hSw; (try dsimp only at hSw); go_simp; (try with_reducible rfl); (try (first | (rw [if_pos (by omega)]; (try go_simp); (try with_reducible rfl)) | (rw [if_neg (by omega)]; (try go_simp); (try with_reducible rfl)))))
        try simp only [Act.put, zA, zB, zC]
        refine wpAnyR_takeQ (i := 6) (v := ?_) (some 68) rfl rfl (by kernel_rfl) (by kernel_rfl) (by kernel_rfl) (by kernel_rfl) (fun _ _ _ h => h) (Or.inl ⟨by rfl, ?_⟩) ?_
        rotate_left
        focus (intro wS hSw; (try dsimp only at hSw); go_simp; (try with_reducible rfl); (try (first | (rw [if_pos (by omega)]; (try go_simp); (try with_reducible rfl)) | (rw [if_neg (by omega)]; (try go_simp); (try with_reducible rfl)))))
        try simp only [Act.put, zA, zB, zC]
        refine wpAnyR_take (i := 7) (v := ?_) [8, 9, 10, 11, 12, 13, 14, 15, 16, 17] (some 69) rfl rfl (by kernel_rfl) (by kernel_rfl) (by kernel_rfl) (by kernel_rfl) (by kernel_rfl) (by kernel_rfl) (by kernel_rfl) (fun _ _ _ h => h) (Or.inl ⟨by rfl, ?_⟩) hS ?_
        rotate_left
        focus (intro wS hSw; (try dsimp only at hSw); go_simp; (try with_reducible rfl); (try (first | (rw [if_pos (by omega)]; (try go_simp); (try with_reducible rfl)) | (rw [if_neg (by omega)]; (try go_simp); (try with_reducible rfl)))))
        try simp only [Act.put, zA, zB, zC]
        refine wpAnyR_takeQ (i := 8) (v := ?_) (some 70) rfl rfl (by kernel_rfl) (by kernel_rfl) (by kernel_rfl) (by kernel_rfl) (fun _ _ _ h => h) (Or.inl ⟨by rfl, ?_⟩) ?_
        rotate_left
        focus (intro wS hSw; (try dsimp only at hSw); go_simp; (try with_reducible rfl); (try (first | (rw [if_pos (by omega)]; (try go_simp); (try with_reducible rfl)) | (rw [if_neg (by omega)]; (try go_simp); (try with_reducible rfl)))))
        try simp only [Act.put, zA, zB, zC]
        rw [HC1.out]
        refine wpAnyR_takeQ (i := 9) (v := ?_) (some 71) rfl rfl (by kernel_rfl) (by kernel_rfl) (by kernel_rfl) (by kernel_rfl) (fun _ _ _ h => h) (Or.inl ⟨by rfl, ?_⟩) ?_
        rotate_left
        focus (intro wS hSw; (try dsimp only at hSw); go_simp; (try with_reducible rfl); (try (first | (rw [if_pos (by omega)]; (try go_simp); (try with_reducible rfl)) | (rw [if_neg (by omega)]; (try go_simp); (try with_reducible rfl)))))
        try simp only [Act.put, zA, zB, zC]
        refine wpAnyR_takeQ (i := 10) (v := undef) (some 72) rfl rfl (by kernel_rfl) (by kernel_rfl) (by kernel_rfl) (by kernel_rfl) (fun _ _ _ h => h) (Or.inr ⟨by rfl, rfl⟩) ?_
        try simp only [Act.put, zA, zB, zC]
        refine wpAnyR_takeQ (i := 11) (v := undef) (some 73) rfl rfl (by kernel_rfl) (by kernel_rfl) (by kernel_rfl) (by kernel_rfl) (fun _ _ _ h => h) (Or.inr ⟨by rfl, rfl⟩) ?_
        try simp only [Act.put, zA, zB, zC]
        refine wpAnyR_takeQ (i := 12) (v := undef) (some 74) rfl rfl (by kernel_rfl) (by kernel_rfl) (by kernel_rfl) (by kernel_rfl) (fun _ _ _ h => h) (Or.inr ⟨by rfl, rfl⟩) ?_
        try simp only [Act.put, zA, zB, zC]
        refine wpAnyR_takeQ (i := 13) (v := undef) (some 75) rfl rfl (by kernel_rfl) (by kernel_rfl) (by kernel_rfl) (by kernel_rfl) (fun _ _ _ h => h) (Or.inr ⟨by rfl, rfl⟩) ?_
        try simp only [Act.put, zA, zB, zC]
        refine wpAnyR_takeQ (i := 14) (v := undef) (some 76) rfl rfl (by kernel_rfl) (by kernel_rfl) (by kernel_rfl) (by kernel_rfl) (fun _ _ _ h => h) (Or.inr ⟨by rfl, rfl⟩) ?_
        try simp only [Act.put, zA, zB, zC]
        refine wpAnyR_takeQ (i := 15) (v := undef) (some 77) rfl rfl (by kernel_rfl) (by kernel_rfl) (by kernel_rfl) (by kernel_rfl) (fun _ _ _ h => h) (Or.inr ⟨by rfl, rfl⟩) ?_
        try simp only [Act.put, zA, zB, zC]
        refine wpAnyR_takeQ (i := 16) (v := undef) (some 78) rfl rfl (by kernel_rfl) (by kernel_rfl) (by kernel_rfl) (by kernel_rfl) (fun _ _ _ h => h) (Or.inr ⟨by rfl, rfl⟩) ?_
        try simp only [Act.put, zA, zB, zC]
        refine wpAnyR_takeQ (i := 17) (v := ?_) (some 79) rfl rfl (by kernel_rfl) (by kernel_rfl) (by kernel_rfl) (by kernel_rfl) (fun _ _ _ h => h) (Or.inl ⟨by rfl, ?_⟩) ?_
        rotate_left
        focus (intro wS hSw; (try dsimp only at hSw); go_simp; (try with_reducible rfl); (try (first | (rw [if_pos (by omega)]; (try go_simp); (try with_reducible rfl)) | (rw [if_neg (by omega)]; (try go_simp); (try with_reducible rfl)))))
        try simp only [Act.put, zA, zB, zC]
        refine wpAnyR_done (by kernel_rfl) ?_ _
        clear hS c0 c1 c2 c3 c4 x2 y0
        obtain ⟨wz, hwz⟩ : ∃ wz, wz = wr.drew := ⟨_, rfl⟩
        rw [← hwz]
        have hgz : Grew wr wz := by rw [hwz]; exact (Grew.refl wr).drew
        have HGz := Lib.hid hgz
        have c0 : wz.cell? ⟨b, off + q * 5, none⟩ = some (.int .i64 l.id) := by rw [hwz]; exact C0.out
        have c1 : wz.cell? ⟨b, off + q * 5 + 1, none⟩ = some (.int .i64 l.unit) := by rw [hwz]; exact C1.out
        have c2 : wz.cell? ⟨b, off + q * 5 + 2, none⟩ = some (.string l.name) := by rw [hwz]; exact C2.out
        have c3 : wz.cell? ⟨b, off + q * 5 + 3, none⟩ = some (.string l.note) := by rw [hwz]; exact C3.out
        have c4 : wz.cell? ⟨b, off + q * 5 + 4, none⟩ = some (.slice B l.ext.length d) := by rw [hwz]; exact C4.out
        have x2 := (HB.out.grew hgz).cell 2
        have hbz := (HB.out.grew hgz).lt
        have hblz := Nat.lt_of_lt_of_le hBL hgz.size
        clear hwz hgz
        go_wp2_with fail
        refine (rempty_any B d l _ (HLA.out.hold HGz.out) HLE.out).mono ?_
        rintro e w3 ⟨rfl, g3⟩
        have HB3 := Lib.hid ((HB.out.grew HGz.out).grew g3)
        have HR3 := Lib.hid ((HR.out.grew HGz.out).grew g3)
        have HZ3 := Lib.hid ((HZ.out.grew HGz.out).grew g3)
        have HG3 := Lib.hid ((HG.out.trans HGz.out).trans g3)
        clear c0 c1 c2 c3 c4 x2 hbz hblz g3
        cases hem : emL l with
        | false =>
          have HSN := Lib.hid (HSL.out.keep hlt (by rw [HV1.out]; exact hem))
          clear hem
          go_wp2_with fail
          go_roundg q
          case measure => rw [HGK.out]; omega
          case rel => exact ⟨q, s, (q : Int) - 1, by omega, rfl, by go_num, rfl, by go_num, HSN.out, HNX.out, HB3.out, HR3.out, HZ3.out, HG3.out⟩
        | true =>
          have HSN := Lib.hid (SlotR.hit hlt (by rw [HV1.out]; exact hem))
          clear hem
          go_wp2_with fail
          go_roundg q
          case measure => rw [HGK.out]; omega
          case rel => exact ⟨q, (q : Int), (q : Int) - 1, by omega, rfl, by go_num, rfl, by go_num, HSN.out, HNX.out, HB3.out, HR3.out, HZ3.out, HG3.out⟩
      | true =>
        have HC1 := Lib.hid b1
        cases b2 : (l.unit != 0) with
        | false =>
          have hu0 : l.unit = 0 := by simpa using b2
          have HNX := Lib.hid (show ∀ j (hj : j < T.labels.length), q ≤ j → tentL id T.labels[j] = false from fun j hj hjq => by
            by_cases hjq' : j = q
            · subst hjq'; rw [HV1.out, HTL.out]; rw [hu0]; simp
            · exact HNT.out j hj (by omega))
          have HC2 := Lib.hid b2
          clear b1 b2 hu0
          go_wp2_with fail
          refine wp_region_R [] (fun w' : World => w'.cell? ⟨w.heap.size, 2, none⟩ = some (.slice (some ⟨b, off, none⟩) T.labels.length c) ∧ w'.cell? ⟨w.heap.size + 1, 0, none⟩ = some (.int .i64 id) ∧ w'.cell? ⟨b, off + q * 5, none⟩ = some (.int .i64 l.id) ∧ w'.cell? ⟨b, off + q * 5 + 1, none⟩ = some (.int .i64 l.unit)) (by kernel_rfl) ?_
          refine wpAnyR_takeQ (i := 0) (v := ?_) (some 62) rfl rfl (by kernel_rfl) (by kernel_rfl) (by kernel_rfl) (by kernel_rfl) (fun _ _ _ h => h) (Or.inl ⟨by rfl, ?_⟩) ?_
          rotate_left
          focus (intro wS hSw; (try dsimp only at hSw); go_simp; (try with_reducible rfl); (try (first | (rw [if_pos (by omega)]; (try go_simp); (try with_reducible rfl)) | (rw [if_neg (by omega)]; (try go_simp); (try with_reducible rfl)))))
          try simp only [Act.put, zA, zB, zC]
          refine wpAnyR_take (i := 1) (v := ?_) [3, 4, 5, 8, 9, 10, 11, 12, 13, 14, 15, 16, 17] (some 63) rfl rfl (by kernel_rfl) (by kernel_rfl) (by kernel_rfl) (by kernel_rfl) (by kernel_rfl) (by kernel_rfl) (by kernel_rfl) (fun _ _ _ h => h) (Or.inl ⟨by rfl, ?_⟩) hS ?_
          rotate_left
          focus (intro wS hSw; (try dsimp only at hSw); go_simp; (try with_reducible rfl); (try (first | (rw [if_pos (by omega)]; (try go_simp); (try with_reducible rfl)) | (rw [if_neg (by omega)]; (try go_simp); (try with_reducible rfl)))))
          try simp only [Act.put, zA, zB, zC]
          refine wpAnyR_takeQ (i := 2) (v := ?_) (some 64) rfl rfl (by kernel_rfl) (by kernel_rfl) (by kernel_rfl) (by kernel_rfl) (fun _ _ _ h => h) (Or.inl ⟨by rfl, ?_⟩) ?_
          rotate_left
          focus (intro wS hSw; (try dsimp only at hSw); go_simp; (try with_reducible rfl); (try (first | (rw [if_pos (by omega)]; (try go_simp); (try with_reducible rfl)) | (rw [if_neg (by omega)]; (try go_simp); (try with_reducible rfl)))))
          try simp only [Act.put, zA, zB, zC]
          refine wpAnyR_takeQ (i := 3) (v := ?_) (some 65) rfl rfl (by kernel_rfl) (by kernel_rfl) (by kernel_rfl) (by kernel_rfl) (fun _ _ _ h => h) (Or.inl ⟨by rfl, ?_⟩) ?_
          rotate_left
          focus (intro wS hSw; (try dsimp only at hSw); go_simp; (try with_reducible rfl); (try (first | (rw [if_pos (by omega)]; (try go_simp); (try with_reducible rfl)) | (rw [if_neg (by omega)]; (try go_simp); (try with_reducible rfl)))))
          try simp only [Act.put, zA, zB, zC]
          refine wpAnyR_takeQ (i := 4) (v := ?_) (some 66) rfl rfl (by kernel_rfl) (by kernel_rfl) (by kernel_rfl) (by kernel_rfl) (fun _ _ _ h => h) (Or.inl ⟨by rfl, ?_⟩) ?_
          rotate_left
          focus (intro wS hSw; (try dsimp only at hSw); go_simp; (try with_reducible rfl); (try (first | (rw [if_pos (by omega)]; (try go_simp); (try with_reducible rfl)) | (rw [if_neg (by omega)]; (try go_simp); (try with_reducible rfl)))))
          try simp only [Act.put, zA, zB, zC]
          refine wpAnyR_take (i := 5) (v := ?_) [8, 9, 10, 11, 12, 13, 14, 15, 16, 17] (some 67) rfl rfl (by kernel_rfl) (by kernel_rfl) (by kernel_rfl) (by kernel_rfl) (by kernel_rfl) (by kernel_rfl) (by kernel_rfl) (fun _ _ _ h => h) (Or.inl ⟨by rfl, ?_⟩) hS ?_
          rotate_left
          focus (intro wS hSw; (try dsimp only at hSw); go_simp; (try with_reducible rfl); (try (first | (rw [if_pos (by omega)]; (try go_simp); (try with_reducible rfl)) | (rw [if_neg (by omega)]; (try go_simp); (try with_reducible rfl)))))
          try simp only [Act.put, zA, zB, zC]
          refine wpAnyR_takeQ (i := 6) (v := ?_) (some 68) rfl rfl (by kernel_rfl) (by kernel_rfl) (by kernel_rfl) (by kernel_rfl) (fun _ _ _ h => h) (Or.inl ⟨by rfl, ?_⟩) ?_
          rotate_left
          focus (intro wS hSw; (try dsimp only at hSw); go_simp; (try with_reducible rfl); (try (first | (rw [if_pos (by omega)]; (try go_simp); (try with_reducible rfl)) | (rw [if_neg (by omega)]; (try go_simp); (try with_reducible rfl)))))
          try simp only [Act.put, zA, zB, zC]
          refine wpAnyR_take (i := 7) (v := ?_) [8, 9, 10, 11, 12, 13, 14, 15, 16, 17] (some 69) rfl rfl (by kernel_rfl) (by kernel_rfl) (by kernel_rfl) (by kernel_rfl) (by kernel_rfl) (by kernel_rfl) (by kernel_rfl) (fun _ _ _ h => h) (Or.inl ⟨by rfl, ?_⟩) hS ?_
          rotate_left
          focus (intro wS hSw; (try dsimp only at hSw); go_simp; (try with_reducible rfl); (try (first | (rw [if_pos (by omega)]; (try go_simp); (try with_reducible rfl)) | (rw [if_neg (by omega)]; (try go_simp); (try with_reducible rfl)))))
          try simp only [Act.put, zA, zB, zC]
          refine wpAnyR_takeQ (i := 8) (v := ?_) (some 70) rfl rfl (by kernel_rfl) (by kernel_rfl) (by kernel_rfl) (by kernel_rfl) (fun _ _ _ h => h) (Or.inl ⟨by rfl, ?_⟩) ?_
          rotate_left
          focus (intro wS hSw; (try dsimp only at hSw); go_simp; (try with_reducible rfl); (try (first | (rw [if_pos (by omega)]; (try go_simp); (try with_reducible rfl)) | (rw [if_neg (by omega)]; (try go_simp); (try with_reducible rfl)))))
          try simp only [Act.put, zA, zB, zC]
          rw [HC1.out]
          refine wpAnyR_takeQ (i := 9) (v := ?_) (some 71) rfl rfl (by kernel_rfl) (by kernel_rfl) (by kernel_rfl) (by kernel_rfl) (fun _ _ _ h => h) (Or.inl ⟨by rfl, ?_⟩) ?_
          rotate_left
          focus (intro wS hSw; (try dsimp only at hSw); go_simp; (try with_reducible rfl); (try (first | (rw [if_pos (by omega)]; (try go_simp); (try with_reducible rfl)) | (rw [if_neg (by omega)]; (try go_simp); (try with_reducible rfl)))))
          try simp only [Act.put, zA, zB, zC]
          refine wpAnyR_takeQ (i := 10) (v := ?_) (some 72) rfl rfl (by kernel_rfl) (by kernel_rfl) (by kernel_rfl) (by kernel_rfl) (fun _ _ _ h => h) (Or.inl ⟨by rfl, ?_⟩) ?_
          rotate_left
          focus (intro wS hSw; (try dsimp only at hSw); go_simp; (try with_reducible rfl); (try (first | (rw [if_pos (by omega)]; (try go_simp); (try with_reducible rfl)) | (rw [if_neg (by omega)]; (try go_simp); (try with_reducible rfl)))))
          try simp only [Act.put, zA, zB, zC]
          refine wpAnyR_take (i := 11) (v := ?_) [13, 14, 15, 16, 17] (some 73) rfl rfl (by kernel_rfl) (by kernel_rfl) (by kernel_rfl) (by kernel_rfl) (by kernel_rfl) (by kernel_rfl) (by kernel_rfl) (fun _ _ _ h => h) (Or.inl ⟨by rfl, ?_⟩) hS ?_
          rotate_left
          focus (intro wS hSw; (try dsimp only at hSw); go_simp; (try with_reducible rfl); (try (first | (rw [if_pos (by omega)]; (try go_simp); (try with_reducible rfl)) | (rw [if_neg (by omega)]; (try go_simp); (try with_reducible rfl)))))
          try simp only [Act.put, zA, zB, zC]
          refine wpAnyR_takeQ (i := 12) (v := ?_) (some 74) rfl rfl (by kernel_rfl) (by kernel_rfl) (by kernel_rfl) (by kernel_rfl) (fun _ _ _ h => h) (Or.inl ⟨by rfl, ?_⟩) ?_
          rotate_left
          focus (intro wS hSw; (try dsimp only at hSw); go_simp; (try with_reducible rfl); (try (first | (rw [if_pos (by omega)]; (try go_simp); (try with_reducible rfl)) | (rw [if_neg (by omega)]; (try go_simp); (try with_reducible rfl)))))
          try simp only [Act.put, zA, zB, zC]
          refine wpAnyR_takeQ (i := 13) (v := ?_) (some 75) rfl rfl (by kernel_rfl) (by kernel_rfl) (by kernel_rfl) (by kernel_rfl) (fun _ _ _ h => h) (Or.inl ⟨by rfl, ?_⟩) ?_
          rotate_left
          focus (intro wS hSw; (try dsimp only at hSw); go_simp; (try with_reducible rfl); (try (first | (rw [if_pos (by omega)]; (try go_simp); (try with_reducible rfl)) | (rw [if_neg (by omega)]; (try go_simp); (try with_reducible rfl)))))
          try simp only [Act.put, zA, zB, zC]
          refine wpAnyR_takeQ (i := 14) (v := ?_) (some 76) rfl rfl (by kernel_rfl) (by kernel_rfl) (by kernel_rfl) (by kernel_rfl) (fun _ _ _ h => h) (Or.inl ⟨by rfl, ?_⟩) ?_
          rotate_left
          focus (intro wS hSw; (try dsimp only at hSw); go_simp; (try with_reducible rfl); (try (first | (rw [if_pos (by omega)]; (try go_simp); (try with_reducible rfl)) | (rw [if_neg (by omega)]; (try go_simp); (try with_reducible rfl)))))
          try simp only [Act.put, zA, zB, zC]
          refine wpAnyR_take (i := 15) (v := ?_) [16, 17] (some 77) rfl rfl (by kernel_rfl) (by kernel_rfl) (by kernel_rfl) (by kernel_rfl) (by kernel_rfl) (by kernel_rfl) (by kernel_rfl) (fun _ _ _ h => h) (Or.inl ⟨by rfl, ?_⟩) hS ?_
          rotate_left
          focus (intro wS hSw; (try dsimp only at hSw); go_simp; (try with_reducible rfl); (try (first | (rw [if_pos (by omega)]; (try go_simp); (try with_reducible rfl)) | (rw [if_neg (by omega)]; (try go_simp); (try with_reducible rfl)))))
          try simp only [Act.put, zA, zB, zC]
          refine wpAnyR_takeQ (i := 16) (v := ?_) (some 78) rfl rfl (by kernel_rfl) (by kernel_rfl) (by kernel_rfl) (by kernel_rfl) (fun _ _ _ h => h) (Or.inl ⟨by rfl, ?_⟩) ?_
          rotate_left
          focus (intro wS hSw; (try dsimp only at hSw); go_simp; (try with_reducible rfl); (try (first | (rw [if_pos (by omega)]; (try go_simp); (try with_reducible rfl)) | (rw [if_neg (by omega)]; (try go_simp); (try with_reducible rfl)))))
          try simp only [Act.put, zA, zB, zC]
          rw [HC2.out]
          refine wpAnyR_takeQ (i := 17) (v := ?_) (some 79) rfl rfl (by kernel_rfl) (by kernel_rfl) (by kernel_rfl) (by kernel_rfl) (fun _ _ _ h => h) (Or.inl ⟨by rfl, ?_⟩) ?_
          rotate_left
          focus (intro wS hSw; (try dsimp only at hSw); go_simp; (try with_reducible rfl); (try (first | (rw [if_pos (by omega)]; (try go_simp); (try with_reducible rfl)) | (rw [if_neg (by omega)]; (try go_simp); (try with_reducible rfl)))))
          try simp only [Act.put, zA, zB, zC]
          refine wpAnyR_done (by kernel_rfl) ?_ _
          clear hS c0 c1 c2 c3 c4 x2 y0
          obtain ⟨wz, hwz⟩ : ∃ wz, wz = wr.drew := ⟨_, rfl⟩
          rw [← hwz]
          have hgz : Grew wr wz := by rw [hwz]; exact (Grew.refl wr).drew
          have HGz := Lib.hid hgz
          have c0 : wz.cell? ⟨b, off + q * 5, none⟩ = some (.int .i64 l.id) := by rw [hwz]; exact C0.out
          have c1 : wz.cell? ⟨b, off + q * 5 + 1, none⟩ = some (.int .i64 l.unit) := by rw [hwz]; exact C1.out
          have c2 : wz.cell? ⟨b, off + q * 5 + 2, none⟩ = some (.string l.name) := by rw [hwz]; exact C2.out
          have c3 : wz.cell? ⟨b, off + q * 5 + 3, none⟩ = some (.string l.note) := by rw [hwz]; exact C3.out
          have c4 : wz.cell? ⟨b, off + q * 5 + 4, none⟩ = some (.slice B l.ext.length d) := by rw [hwz]; exact C4.out
          have x2 := (HB.out.grew hgz).cell 2
          have hbz := (HB.out.grew hgz).lt
          have hblz := Nat.lt_of_lt_of_le hBL hgz.size
          clear hwz hgz
          go_wp2_with fail
          refine (rempty_any B d l _ (HLA.out.hold HGz.out) HLE.out).mono ?_
          rintro e w3 ⟨rfl, g3⟩
          have HB3 := Lib.hid ((HB.out.grew HGz.out).grew g3)
          have HR3 := Lib.hid ((HR.out.grew HGz.out).grew g3)
          have HZ3 := Lib.hid ((HZ.out.grew HGz.out).grew g3)
          have HG3 := Lib.hid ((HG.out.trans HGz.out).trans g3)
          clear c0 c1 c2 c3 c4 x2 hbz hblz g3
          cases hem : emL l with
          | false =>
            have HSN := Lib.hid (HSL.out.keep hlt (by rw [HV1.out]; exact hem))
            clear hem
            go_wp2_with fail
            go_roundg q
            case measure => rw [HGK.out]; omega
            case rel => exact ⟨q, s, (q : Int) - 1, by omega, rfl, by go_num, rfl, by go_num, HSN.out, HNX.out, HB3.out, HR3.out, HZ3.out, HG3.out⟩
          | true =>
            have HSN := Lib.hid (SlotR.hit hlt (by rw [HV1.out]; exact hem))
            clear hem
            go_wp2_with fail
            go_roundg q
            case measure => rw [HGK.out]; omega
            case rel => exact ⟨q, (q : Int), (q : Int) - 1, by omega, rfl, by go_num, rfl, by go_num, HSN.out, HNX.out, HB3.out, HR3.out, HZ3.out, HG3.out⟩
        | true =>
          have hu0 : 0 < l.unit := by
            have : l.unit ≠ 0 := by simpa using b2
            omega
          have hany : T.labels.any (tentL id) = true := List.any_eq_true.2 ⟨T.labels[q], List.getElem_mem hlt, by rw [HV1.out, HTL.out, b1, decide_eq_true hu0]; rfl⟩
          have hr := HR5.out hany
          injection hr with e1 e2
          subst e1; subst e2
          have HC2 := Lib.hid b2
          clear b1 b2 hu0 hany
          go_wp2_with fail
          refine wp_region_R [] (fun w' : World => w'.cell? ⟨w.heap.size, 2, none⟩ = some (.slice (some ⟨b, off, none⟩) T.labels.length c) ∧ w'.cell? ⟨w.heap.size + 1, 0, none⟩ = some (.int .i64 id) ∧ w'.cell? ⟨b, off + q * 5, none⟩ = some (.int .i64 l.id) ∧ w'.cell? ⟨b, off + q * 5 + 1, none⟩ = some (.int .i64 l.unit)) (by kernel_rfl) ?_
          refine wpAnyR_takeQ (i := 0) (v := ?_) (some 62) rfl rfl (by kernel_rfl) (by kernel_rfl) (by kernel_rfl) (by kernel_rfl) (fun _ _ _ h => h) (Or.inl ⟨by rfl, ?_⟩) ?_
          rotate_left
          focus (intro wS hSw; (try dsimp only at hSw); go_simp; (try with_reducible rfl); (try (first | (rw [if_pos (by omega)]; (try go_simp); (try with_reducible rfl)) | (rw [if_neg (by omega)]; (try go_simp); (try with_reducible rfl)))))
          try simp only [Act.put, zA, zB, zC]
          refine wpAnyR_take (i := 1) (v := ?_) [3, 4, 5, 8, 9, 10, 11, 12, 13, 14, 15, 16, 17] (some 63) rfl rfl (by kernel_rfl) (by kernel_rfl) (by kernel_rfl) (by kernel_rfl) (by kernel_rfl) (by kernel_rfl) (by kernel_rfl) (fun _ _ _ h => h) (Or.inl ⟨by rfl, ?_⟩) hS ?_
          rotate_left
          focus (intro wS hSw; (try dsimp only at hSw); go_simp; (try with_reducible rfl); (try (first | (rw [if_pos (by omega)]; (try go_simp); (try with_reducible rfl)) | (rw [if_neg (by omega)]; (try go_simp); (try with_reducible rfl)))))
          try simp only [Act.put, zA, zB, zC]
          refine wpAnyR_takeQ (i := 2) (v := ?_) (some 64) rfl rfl (by kernel_rfl) (by kernel_rfl) (by kernel_rfl) (by kernel_rfl) (fun _ _ _ h => h) (Or.inl ⟨by rfl, ?_⟩) ?_
          rotate_left
          focus (intro wS hSw; (try dsimp only at hSw); go_simp; (try with_reducible rfl); (try (first | (rw [if_pos (by omega)]; (try go_simp); (try with_reducible rfl)) | (rw [if_neg (by omega)]; (try go_simp); (try with_reducible rfl)))))
          try simp only [Act.put, zA, zB, zC]
          refine wpAnyR_takeQ (i := 3) (v := ?_) (some 65) rfl rfl (by kernel_rfl) (by kernel_rfl) (by kernel_rfl) (by kernel_rfl) (fun _ _ _ h => h) (Or.inl ⟨by rfl, ?_⟩) ?_
          rotate_left
          focus (intro wS hSw; (try dsimp only at hSw); go_simp; (try with_reducible rfl); (try (first | (rw [if_pos (by omega)]; (try go_simp); (try with_reducible rfl)) | (rw [if_neg (by omega)]; (try go_simp); (try with_reducible rfl)))))
          try simp only [Act.put, zA, zB, zC]
          refine wpAnyR_takeQ (i := 4) (v := ?_) (some 66) rfl rfl (by kernel_rfl) (by kernel_rfl) (by kernel_rfl) (by kernel_rfl) (fun _ _ _ h => h) (Or.inl ⟨by rfl, ?_⟩) ?_
          rotate_left
          focus (intro wS hSw; (try dsimp only at hSw); go_simp; (try with_reducible rfl); (try (first | (rw [if_pos (by omega)]; (try go_simp); (try with_reducible rfl)) | (rw [if_neg (by omega)]; (try go_simp); (try with_reducible rfl)))))
          try simp only [Act.put, zA, zB, zC]
          refine wpAnyR_take (i := 5) (v := ?_) [8, 9, 10, 11, 12, 13, 14, 15, 16, 17] (some 67) rfl rfl (by kernel_rfl) (by kernel_rfl) (by kernel_rfl) (by kernel_rfl) (by kernel_rfl) (by kernel_rfl) (by kernel_rfl) (fun _ _ _ h => h) (Or.inl ⟨by rfl, ?_⟩) hS ?_
          rotate_left
          focus (intro wS hSw; (try dsimp only at hSw); go_simp; (try with_reducible rfl); (try (first | (rw [if_pos (by omega)]; (try go_simp); (try with_reducible rfl)) | (rw [if_neg (by omega)]; (try go_simp); (try with_reducible rfl)))))
          try simp only [Act.put, zA, zB, zC]
          refine wpAnyR_takeQ (i := 6) (v := ?_) (some 68) rfl rfl (by kernel_rfl) (by kernel_rfl) (by kernel_rfl) (by kernel_rfl) (fun _ _ _ h => h) (Or.inl ⟨by rfl, ?_⟩) ?_
          rotate_left
          focus (intro wS hSw; (try dsimp only at hSw); go_simp; (try with_reducible rfl); (try (first | (rw [if_pos (by omega)]; (try go_simp); (try with_reducible rfl)) | (rw [if_neg (by omega)]; (try go_simp); (try with_reducible rfl)))))
          try simp only [Act.put, zA, zB, zC]
          refine wpAnyR_take (i := 7) (v := ?_) [8, 9, 10, 11, 12, 13, 14, 15, 16, 17] (some 69) rfl rfl (by kernel_rfl) (by kernel_rfl) (by kernel_rfl) (by kernel_rfl) (by kernel_rfl) (by kernel_rfl) (by kernel_rfl) (fun _ _ _ h => h) (Or.inl ⟨by rfl, ?_⟩) hS ?_
          rotate_left
          focus (intro wS hSw; (try dsimp only at hSw); go_simp; (try with_reducible rfl); (try (first | (rw [if_pos (by omega)]; (try go_simp); (try with_reducible rfl)) | (rw [if_neg (by omega)]; (try go_simp); (try with_reducible rfl)))))
          try simp only [Act.put, zA, zB, zC]
          refine wpAnyR_takeQ (i := 8) (v := ?_) (some 70) rfl rfl (by kernel_rfl) (by kernel_rfl) (by kernel_rfl) (by kernel_rfl) (fun _ _ _ h => h) (Or.inl ⟨by rfl, ?_⟩) ?_
          rotate_left
          focus (intro wS hSw; (try dsimp only at hSw); go_simp; (try with_reducible rfl); (try (first | (rw [if_pos (by omega)]; (try go_simp); (try with_reducible rfl)) | (rw [if_neg (by omega)]; (try go_simp); (try with_reducible rfl)))))
          try simp only [Act.put, zA, zB, zC]
          rw [HC1.out]
          refine wpAnyR_takeQ (i := 9) (v := ?_) (some 71) rfl rfl (by kernel_rfl) (by kernel_rfl) (by kernel_rfl) (by kernel_rfl) (fun _ _ _ h => h) (Or.inl ⟨by rfl, ?_⟩) ?_
          rotate_left
          focus (intro wS hSw; (try dsimp only at hSw); go_simp; (try with_reducible rfl); (try (first | (rw [if_pos (by omega)]; (try go_simp); (try with_reducible rfl)) | (rw [if_neg (by omega)]; (try go_simp); (try with_reducible rfl)))))
          try simp only [Act.put, zA, zB, zC]
          refine wpAnyR_takeQ (i := 10) (v := ?_) (some 72) rfl rfl (by kernel_rfl) (by kernel_rfl) (by kernel_rfl) (by kernel_rfl) (fun _ _ _ h => h) (Or.inl ⟨by rfl, ?_⟩) ?_
          rotate_left
          focus (intro wS hSw; (try dsimp only at hSw); go_simp; (try with_reducible rfl); (try (first | (rw [if_pos (by omega)]; (try go_simp); (try with_reducible rfl)) | (rw [if_neg (by omega)]; (try go_simp); (try with_reducible rfl)))))
          try simp only [Act.put, zA, zB, zC]
          refine wpAnyR_take (i := 11) (v := ?_) [13, 14, 15, 16, 17] (some 73) rfl rfl (by kernel_rfl) (by kernel_rfl) (by kernel_rfl) (by kernel_rfl) (by kernel_rfl) (by kernel_rfl) (by kernel_rfl) (fun _ _ _ h => h) (Or.inl ⟨by rfl, ?_⟩) hS ?_
          rotate_left
          focus (intro wS hSw; (try dsimp only at hSw); go_simp; (try with_reducible rfl); (try (first | (rw [if_pos (by omega)]; (try go_simp); (try with_reducible rfl)) | (rw [if_neg (by omega)]; (try go_simp); (try with_reducible rfl)))))
          try simp only [Act.put, zA, zB, zC]
          refine wpAnyR_takeQ (i := 12) (v := ?_) (some 74) rfl rfl (by kernel_rfl) (by kernel_rfl) (by kernel_rfl) (by kernel_rfl) (fun _ _ _ h => h) (Or.inl ⟨by rfl, ?_⟩) ?_
          rotate_left
          focus (intro wS hSw; (try dsimp only at hSw); go_simp; (try with_reducible rfl); (try (first | (rw [if_pos (by omega)]; (try go_simp); (try with_reducible rfl)) | (rw [if_neg (by omega)]; (try go_simp); (try with_reducible rfl)))))
          try simp only [Act.put, zA, zB, zC]
          refine wpAnyR_takeQ (i := 13) (v := ?_) (some 75) rfl rfl (by kernel_rfl) (by kernel_rfl) (by kernel_rfl) (by kernel_rfl) (fun _ _ _ h => h) (Or.inl ⟨by rfl, ?_⟩) ?_
          rotate_left
          focus (intro wS hSw; (try dsimp only at hSw); go_simp; (try with_reducible rfl); (try (first | (rw [if_pos (by omega)]; (try go_simp); (try with_reducible rfl)) | (rw [if_neg (by omega)]; (try go_simp); (try with_reducible rfl)))))
          try simp only [Act.put, zA, zB, zC]
          refine wpAnyR_takeQ (i := 14) (v := ?_) (some 76) rfl rfl (by kernel_rfl) (by kernel_rfl) (by kernel_rfl) (by kernel_rfl) (fun _ _ _ h => h) (Or.inl ⟨by rfl, ?_⟩) ?_
          rotate_left
          focus (intro wS hSw; (try dsimp only at hSw); go_simp; (try with_reducible rfl); (try (first | (rw [if_pos (by omega)]; (try go_simp); (try with_reducible rfl)) | (rw [if_neg (by omega)]; (try go_simp); (try with_reducible rfl)))))
          try simp only [Act.put, zA, zB, zC]
          refine wpAnyR_take (i := 15) (v := ?_) [16, 17] (some 77) rfl rfl (by kernel_rfl) (by kernel_rfl) (by kernel_rfl) (by kernel_rfl) (by kernel_rfl) (by kernel_rfl) (by kernel_rfl) (fun _ _ _ h => h) (Or.inl ⟨by rfl, ?_⟩) hS ?_
          rotate_left
          focus (intro wS hSw; (try dsimp only at hSw); go_simp; (try with_reducible rfl); (try (first | (rw [if_pos (by omega)]; (try go_simp); (try with_reducible rfl)) | (rw [if_neg (by omega)]; (try go_simp); (try with_reducible rfl)))))
          try simp only [Act.put, zA, zB, zC]
          refine wpAnyR_takeQ (i := 16) (v := ?_) (some 78) rfl rfl (by kernel_rfl) (by kernel_rfl) (by kernel_rfl) (by kernel_rfl) (fun _ _ _ h => h) (Or.inl ⟨by rfl, ?_⟩) ?_
          rotate_left
          focus (intro wS hSw; (try dsimp only at hSw); go_simp; (try with_reducible rfl); (try (first | (rw [if_pos (by omega)]; (try go_simp); (try with_reducible rfl)) | (rw [if_neg (by omega)]; (try go_simp); (try with_reducible rfl)))))
          try simp only [Act.put, zA, zB, zC]
          rw [HC2.out]
          refine wpAnyR_takeQ (i := 17) (v := ?_) (some 79) rfl rfl (by kernel_rfl) (by kernel_rfl) (by kernel_rfl) (by kernel_rfl) (fun _ _ _ h => h) (Or.inl ⟨by rfl, ?_⟩) ?_
          rotate_left
          focus (intro wS hSw; (try dsimp only at hSw); go_simp; (try with_reducible rfl); (try (first | (rw [if_pos (by omega)]; (try go_simp); (try with_reducible rfl)) | (rw [if_neg (by omega)]; (try go_simp); (try with_reducible rfl)))))
          try simp only [Act.put, zA, zB, zC]
          refine wpAnyR_done (by kernel_rfl) ?_ _
          clear hS c0 c1 c2 c3 c4 x2 y0
          obtain ⟨wz, hwz⟩ : ∃ wz, wz = wr.drew := ⟨_, rfl⟩
          rw [← hwz]
          have hgz : Grew wr wz := by rw [hwz]; exact (Grew.refl wr).drew
          have HZ9 := Lib.hid (HZ.out.grew hgz)
          have HG9 := Lib.hid (HG.out.trans hgz)
          clear hwz hgz
          have z0 := HZ9.out.cell 0
          have z1 := HZ9.out.cell 1
          have z2 := HZ9.out.cell 2
          have f0 := HZ9.out.frozen 0
          have f1 := HZ9.out.frozen 1
          have f2 := HZ9.out.frozen 2
          have hzl := HZ9.out.lt
          go_wp2_with fail
          refine bodyPost_ret (by first | (simp [*, results, Tryz.results68, go_sem]; rfl) | simp [*, results, Tryz.results68, go_sem]) rfl ?_
          exact ⟨none, 0, [], rfl, TabAt.zero _, by have hg := HG9.out; (repeat' first | (with_reducible exact Grew.refl _) | (with_reducible assumption) | (with_reducible refine Grew.alloc ?_ _) | (with_reducible refine Grew.drew ?_) | (with_reducible refine Grew.drewN ?_ _) | (with_reducible refine Grew.setRow ?_ (by first | (simp; done) | (simp; omega) | omega) _) | (with_reducible refine Grew.setCell ?_ (by first | (simp; done) | (simp; omega) | omega) _) | ((with_reducible apply Grew.trans); rotate_left; (with_reducible assumption)) | ((with_reducible apply Grew.turn); rotate_left; (with_reducible assumption); (focus (intro i hi; first | omega | (simp at hi; omega)))) | fail)⟩
    · have hi' : i = -1 := by omega
      have hp00 : p = 0 := by omega
      subst hi'; subst hp00
      have hany : T.labels.any (tentL id) = false := by
        rw [List.any_eq_false]
        intro l hl
        obtain ⟨j, hj, rfl⟩ := List.getElem_of_mem hl
        rw [HNT.out j hj (by omega)]
        simp
      have hr9 := HRN.out hany
      rw [HSL.out.done] at hr9
      have HSD := Lib.hid HSL.out.form0
      clear hany hb hr hz hg hi
      rcases HSD.out with hs1 | ⟨k, hs1, hk⟩
      · rw [hs1, if_pos (by omega)] at hr9
        injection hr9 with e1 e2
        subst e1; subst e2
        subst hs1
        have z0 := HZ.out.cell 0
        have z1 := HZ.out.cell 1
        have z2 := HZ.out.cell 2
        have f0 := HZ.out.frozen 0
        have f1 := HZ.out.frozen 1
        have f2 := HZ.out.frozen 2
        have hzl := HZ.out.lt
        clear HSD
        go_wp2_with fail
        refine bodyPost_ret (by first | (simp [*, results, Tryz.results68, go_sem]; rfl) | simp [*, results, Tryz.results68, go_sem]) rfl ?_
        exact ⟨none, 0, [], rfl, TabAt.zero _, by have hg := HG.out; (repeat' first | (with_reducible exact Grew.refl _) | (with_reducible assumption) | (with_reducible refine Grew.alloc ?_ _) | (with_reducible refine Grew.drew ?_) | (with_reducible refine Grew.drewN ?_ _) | (with_reducible refine Grew.setRow ?_ (by first | (simp; done) | (simp; omega) | omega) _) | (with_reducible refine Grew.setCell ?_ (by first | (simp; done) | (simp; omega) | omega) _) | ((with_reducible apply Grew.trans); rotate_left; (with_reducible assumption)) | ((with_reducible apply Grew.turn); rotate_left; (with_reducible assumption); (focus (intro i hi; first | omega | (simp at hi; omega)))) | fail)⟩
      rw [hs1, if_neg (by omega), Int.toNat_natCast] at hr9
      subst hs1
      have hkn : (k : Int) < (T.labels.length : Int) := by omega
      obtain ⟨kf, hkf⟩ : ∃ kf, freeT T = kf := ⟨_, rfl⟩
      have hkl : kf.length ≤ 128 := by rw [← hkf]; exact freeT_len T
      rw [hkf] at hr9
      obtain ⟨ka, hka⟩ : ∃ ka, ints (allocS (memS kf) n 16).1 = ka := ⟨_, rfl⟩
      obtain ⟨er2, her⟩ : ∃ er2, (allocS (memS kf) n 16).2 = er2 := ⟨_, rfl⟩
      rw [hka, her] at hr9
      have HKF := Lib.hid hkf
      have HKA := Lib.hid hka
      have HER := Lib.hid her
      clear hkf hka her HSD x2 y0 hbl0 hrl0
      by_cases h0 : er2 = 0
      rotate_left
      · rw [if_neg h0] at hr9
        injection hr9 with e1 e2
        subst e1; subst e2
        have hne : (er2 != 0) = true := by rw [bne_iff_ne]; exact h0
        clear h0
        have b0 := HB.out.cell 0
        have b1 := HB.out.cell 1
        have b2 := HB.out.cell 2
        have hbl := HB.out.lt
        go_wp2_with fail
        refine (HFR.out _ HG.out kf HKF.out).mono ?_
        rintro e w4 ⟨A4, c4, rfl, hr4, g4⟩
        have HG4 := Lib.hid (HG.out.trans g4)
        have HB4 := Lib.hid (HB.out.grew g4)
        have HR4 := Lib.hid (HR.out.grew g4)
        have HZ4 := Lib.hid (HZ.out.grew g4)
        clear b0 b1 b2 hbl g4
        go_wp2_with fail
        refine (ralloc_new (A := A4) (c := c4) (l := kf) (m := kf.length) rfl (by omega) hr4 n n0 n1 16 ka er2 HKA.out HER.out).mono ?_
        rintro e w5 ⟨A5, c5, rfl, hn5, g5⟩
        have HG5 := Lib.hid (HG4.out.trans g5)
        have HB5 := Lib.hid (HB4.out.grew g5)
        have HR5x := Lib.hid (HR4.out.grew g5)
        have HZ5 := Lib.hid (HZ4.out.grew g5)
        clear hr4 g5
        clear hn5
        have z0 := HZ5.out.cell 0
        have z1 := HZ5.out.cell 1
        have z2 := HZ5.out.cell 2
        have f0 := HZ5.out.frozen 0
        have f1 := HZ5.out.frozen 1
        have f2 := HZ5.out.frozen 2
        have hzl := HZ5.out.lt
        go_wp2_with fail
        refine bodyPost_ret (by first | (simp [*, results, Tryz.results68, go_sem]; rfl) | simp [*, results, Tryz.results68, go_sem]) rfl ?_
        exact ⟨none, 0, [], rfl, TabAt.zero _, by have hg := HG5.out; (repeat' first | (with_reducible exact Grew.refl _) | (with_reducible assumption) | (with_reducible refine Grew.alloc ?_ _) | (with_reducible refine Grew.drew ?_) | (with_reducible refine Grew.drewN ?_ _) | (with_reducible refine Grew.setRow ?_ (by first | (simp; done) | (simp; omega) | omega) _) | (with_reducible refine Grew.setCell ?_ (by first | (simp; done) | (simp; omega) | omega) _) | ((with_reducible apply Grew.trans); rotate_left; (with_reducible assumption)) | ((with_reducible apply Grew.turn); rotate_left; (with_reducible assumption); (focus (intro i hi; first | omega | (simp at hi; omega)))) | fail)⟩
      subst h0
      rw [if_pos rfl] at hr9
      injection hr9 with e1 e2
      subst e2
      have HT' := Lib.hid e1
      have i0 : -9223372036854775808 ≤ id := by omega
      have i1 : id ≤ 9223372036854775807 := by omega
      have u0 : -9223372036854775808 ≤ unit := by omega
      have u1 : unit ≤ 9223372036854775807 := by omega
      clear e1
      have b0 := HB.out.cell 0
      have b1 := HB.out.cell 1
      have b2 := HB.out.cell 2
      have hbl := HB.out.lt
      go_wp2_with fail
      refine (HFR.out _ HG.out kf HKF.out).mono ?_
      rintro e w4 ⟨A4, c4, rfl, hr4, g4⟩
      have HG4 := Lib.hid (HG.out.trans g4)
      have HB4 := Lib.hid (HB.out.grew g4)
      have HR4 := Lib.hid (HR.out.grew g4)
      have HZ4 := Lib.hid (HZ.out.grew g4)
      clear b0 b1 b2 hbl g4
      go_wp2_with fail
      refine (ralloc_new (A := A4) (c := c4) (l := kf) (m := kf.length) rfl (by omega) hr4 n n0 n1 16 ka 0 HKA.out HER.out).mono ?_
      rintro e w5 ⟨A5, c5, rfl, hn5, g5⟩
      have HG5 := Lib.hid (HG4.out.trans g5)
      have HB5 := Lib.hid (HB4.out.grew g5)
      have HR5x := Lib.hid (HR4.out.grew g5)
      have HZ5 := Lib.hid (HZ4.out.grew g5)
      clear hr4 g5
      have HL5 := Lib.hid (show LabAt w5 A5 c5 ⟨id, unit, nm, nt, ka⟩ from ⟨i0, i1, u0, u1, hns, hts, hn5.1, hn5.2.1, hn5.2.2.1⟩)
      have b0 := HB5.out.cell 0
      have b1 := HB5.out.cell 1
      have b2 := HB5.out.cell 2
      have hbl5 := HB5.out.lt
      have r0 := HR5x.out.cell 0
      have r1 := HR5x.out.cell 1
      have hrl5 := HR5x.out.lt
      clear hn5
      go_wp2_with fail
      refine (rput_tab _ c xs T _ (HTB.out.hold HG5.out) (by omega) k hk A5 c5 ⟨id, unit, nm, nt, ka⟩ HL5.out T' HT'.out).mono ?_
      rintro e w9 ⟨A9, c9, ys, rfl, ht9, g9⟩
      have HZ9 := Lib.hid (HZ5.out.grew g9)
      have HG9 := Lib.hid (HG5.out.trans g9)
      have HT9 := Lib.hid (fun w10 (ht : Turned (fun x => x = w.heap.size + 1 + 1) w9 w10) => ht9.apart HZ9.out ht)
      clear b0 b1 b2 hbl5 r0 r1 hrl5 ht9 g9
      have z0 := HZ9.out.cell 0
      have z1 := HZ9.out.cell 1
      have z2 := HZ9.out.cell 2
      have f0 := HZ9.out.frozen 0
      have f1 := HZ9.out.frozen 1
      have f2 := HZ9.out.frozen 2
      have hzl := HZ9.out.lt
      go_wp2_with fail
      refine bodyPost_ret (by first | (simp [*, results, Tryz.results68, go_sem]; rfl) | simp [*, results, Tryz.results68, go_sem]) rfl ?_
      exact ⟨A9, c9, ys, rfl, HT9.out _ (by (repeat' first | (with_reducible exact Turned.refl _ _) | (with_reducible assumption) | (with_reducible refine Turned.alloc ?_ _) | (with_reducible refine Turned.drew ?_) | (with_reducible refine Turned.drewN ?_ _) | (with_reducible refine Turned.setRow ?_ (by first | (simp; done) | (simp; omega) | omega) _) | (with_reducible refine Turned.setCell ?_ (by first | (simp; done) | (simp; omega) | omega) _) | ((with_reducible apply Turned.andGrew); rotate_left; (with_reducible assumption)) | ((with_reducible apply Turned.trans); rotate_left; (with_reducible assumption)) | fail)), by have hg := HG9.out; (repeat' first | (with_reducible exact Grew.refl _) | (with_reducible assumption) | (with_reducible refine Grew.alloc ?_ _) | (with_reducible refine Grew.drew ?_) | (with_reducible refine Grew.drewN ?_ _) | (with_reducible refine Grew.setRow ?_ (by first | (simp; done) | (simp; omega) | omega) _) | (with_reducible refine Grew.setCell ?_ (by first | (simp; done) | (simp; omega) | omega) _) | ((with_reducible apply Grew.trans); rotate_left; (with_reducible assumption)) | ((with_reducible apply Grew.turn); rotate_left; (with_reducible assumption); (focus (intro i hi; first | omega | (simp at hi; omega)))) | fail)⟩
end
end Go.Proofs.YtnlaogneceanoaaGreat
namespace Go.Proofs.YtnlaogneceanoaaGreat
set_option linter.unusedVariables false
set_option linter.unusedSimpArgs false
set_option linter.unusedSectionVars false
open Go.RowKit
attribute [local go_sem ↓] Go.wp_at_zero Go.wp_at_succ
def doT (T : Tab) (id unit : Int) (nm nt : ByteArray) (n : Int) (ex : List (Int × Int)) (r : Int) : Tab × Int :=
  if r = 0 then createT T id unit nm nt n else if r = 1 then chgT T id unit (chExt T n) else if r = 2 then chgT T id unit (chRel T n) else if r = 3 then chgT T id unit (chRep T ex) else if r = 4 then chgT T id unit (chCon T id nt) else if r = 5 then chgT T id unit (chNote T nt) else chgT T id unit (chRem T)
section
variable (A : Option Addr) (c : Nat) (xs : List LabE) (T : Tab) (id unit : Int) (w : World) (B : Option Addr) (d : Nat) (k : Nat) (nm nt : ByteArray) (n : Int) (ex : List (Int × Int))
set_option maxRecDepth 100000 in
set_option maxHeartbeats 16000000 in
theorem do_tab (h : TabAt w A c xs T) (hs : SmallT T) (hk : k < 256) (hns : nm.size ≤ 9223372036854775807) (hts : nt.size ≤ 9223372036854775807) (n0 : -9223372036854775808 ≤ n) (n1 : n ≤ 9223372036854775807) (hx : RunsAt w w.heap.size B ex) (hxl : ex.length ≤ 1000) (T' : Tab) (er : Int) (hr : doT T id unit nm nt n ex ((k : Int) % 7) = (T', er)) :
    Calls Tryz.prog 22 #[.agg #[.string T.name, .int .i64 T.tracks, .slice A T.labels.length c], .agg #[.int .u8 (k : Int), .int .i64 id, .int .i64 unit, .string nm, .string nt, .int .i64 n, .slice B ex.length d]] w (TabR w T' er) := by
  have hg0 := (((Grew.refl w).alloc (.cells #[.string T.name, .int .i64 T.tracks, .slice A T.labels.length c] 24)).alloc (.cells #[.int .u8 (k : Int), .int .i64 id, .int .i64 unit, .string nm, .string nt, .int .i64 n, .slice B ex.length d] 43)).alloc (.cells #[.string ⟨#[]⟩, .int .i64 0, .slice none 0 0] 24)
  have HB0 := Lib.hid (((Blk.new w 24 #[.string T.name, .int .i64 T.tracks, .slice A T.labels.length c] rfl).alloc (.cells #[.int .u8 (k : Int), .int .i64 id, .int .i64 unit, .string nm, .string nt, .int .i64 n, .slice B ex.length d] 43)).alloc (.cells #[.string ⟨#[]⟩, .int .i64 0, .slice none 0 0] 24))
  have HO0 := Lib.hid ((Blk.new (w.alloc (.cells #[.string T.name, .int .i64 T.tracks, .slice A T.labels.length c] 24)) 43 #[.int .u8 (k : Int), .int .i64 id, .int .i64 unit, .string nm, .string nt, .int .i64 n, .slice B ex.length d] (n := w.heap.size + 1) (by simp)).alloc (.cells #[.string ⟨#[]⟩, .int .i64 0, .slice none 0 0] 24))
  have HZ0 := Lib.hid (Blk.new ((w.alloc (.cells #[.string T.name, .int .i64 T.tracks, .slice A T.labels.length c] 24)).alloc (.cells #[.int .u8 (k : Int), .int .i64 id, .int .i64 unit, .string nm, .string nt, .int .i64 n, .slice B ex.length d] 43)) 24 #[.string ⟨#[]⟩, .int .i64 0, .slice none 0 0] (n := w.heap.size + 1 + 1) (by simp))
  have HTB := Lib.hid (h.hold hg0)
  have HX := Lib.hid (RunsAt.hold (w := w) hx hg0)
  have HG0 := Lib.hid hg0
  obtain ⟨r, hrr⟩ : ∃ r : Int, (k : Int) % 7 = r := ⟨_, rfl⟩
  have hr0 : 0 ≤ r := by omega
  have hr6 : r ≤ 6 := by omega
  rw [hrr] at hr
  unfold doT at hr
  clear h hx hg0
  by_cases e0 : r = 0
  · rw [if_pos e0] at hr
    subst e0
    have HC := Lib.hid (create_tab A c xs T id unit _ HTB.out hs nm nt hns hts n n0 n1 T' er hr)
    clear hr hs hr0 hr6
    go_enter Tryz.func22, Tryz.ntmps22
    go_wp2_with fail
    refine HC.out.mono ?_
    rintro e w1 ⟨A1, c1, ys, rfl, ht1, g1⟩
    have HZ1 := Lib.hid (HZ0.out.grew g1)
    have HG1 := Lib.hid (HG0.out.trans g1)
    have HT1 := Lib.hid (fun w2 (ht : Turned (fun x => x = w.heap.size + 1 + 1) w1 w2) => ht1.apart HZ1.out ht)
    clear ht1 g1 HC HTB HX HB0 HO0
    have z0 := HZ1.out.cell 0
    have z1 := HZ1.out.cell 1
    have z2 := HZ1.out.cell 2
    have f0 := HZ1.out.frozen 0
    have f1 := HZ1.out.frozen 1
    have f2 := HZ1.out.frozen 2
    have hzl := HZ1.out.lt
    go_wp2_with fail
    refine bodyPost_ret (by first | (simp [*, results, Tryz.results22, go_sem]; rfl) | simp [*, results, Tryz.results22, go_sem]) rfl ?_
    exact ⟨A1, c1, ys, rfl, HT1.out _ (by (repeat' first | (with_reducible exact Turned.refl _ _) | (with_reducible assumption) | (with_reducible refine Turned.alloc ?_ _) | (with_reducible refine Turned.drew ?_) | (with_reducible refine Turned.drewN ?_ _) | (with_reducible refine Turned.setRow ?_ (by first | (simp; done) | (simp; omega) | omega) _) | (with_reducible refine Turned.setCell ?_ (by first | (simp; done) | (simp; omega) | omega) _) | ((with_reducible apply Turned.andGrew); rotate_left; (with_reducible assumption)) | ((with_reducible apply Turned.trans); rotate_left; (with_reducible assumption)) | fail)), by have hg := HG1.out; (repeat' first | (with_reducible exact Grew.refl _) | (with_reducible assumption) | (with_reducible refine Grew.alloc ?_ _) | (with_reducible refine Grew.drew ?_) | (with_reducible refine Grew.drewN ?_ _) | (with_reducible refine Grew.setRow ?_ (by first | (simp; done) | (simp; omega) | omega) _) | (with_reducible refine Grew.setCell ?_ (by first | (simp; done) | (simp; omega) | omega) _) | ((with_reducible apply Grew.trans); rotate_left; (with_reducible assumption)) | ((with_reducible apply Grew.turn); rotate_left; (with_reducible assumption); (focus (intro i hi; first | omega | (simp at hi; omega)))) | fail)⟩
  rw [if_neg e0] at hr
  by_cases e1 : r = 1
  · rw [if_pos e1] at hr
    subst e1
    have HC := Lib.hid (extend_tab A c xs T id unit _ HTB.out hs n n0 n1 T' er hr)
    clear hr hs hr0 hr6
    go_enter Tryz.func22, Tryz.ntmps22
    go_wp2_with fail
    refine HC.out.mono ?_
    rintro e w1 ⟨A1, c1, ys, rfl, ht1, g1⟩
    have HZ1 := Lib.hid (HZ0.out.grew g1)
    have HG1 := Lib.hid (HG0.out.trans g1)
    have HT1 := Lib.hid (fun w2 (ht : Turned (fun x => x = w.heap.size + 1 + 1) w1 w2) => ht1.apart HZ1.out ht)
    clear ht1 g1 HC HTB HX HB0 HO0
    have z0 := HZ1.out.cell 0
    have z1 := HZ1.out.cell 1
    have z2 := HZ1.out.cell 2
    have f0 := HZ1.out.frozen 0
    have f1 := HZ1.out.frozen 1
    have f2 := HZ1.out.frozen 2
    have hzl := HZ1.out.lt
    go_wp2_with fail
    refine bodyPost_ret (by first | (simp [*, results, Tryz.results22, go_sem]; rfl) | simp [*, results, Tryz.results22, go_sem]) rfl ?_
    exact ⟨A1, c1, ys, rfl, HT1.out _ (by (repeat' first | (with_reducible exact Turned.refl _ _) | (with_reducible assumption) | (with_reducible refine Turned.alloc ?_ _) | (with_reducible refine Turned.drew ?_) | (with_reducible refine Turned.drewN ?_ _) | (with_reducible refine Turned.setRow ?_ (by first | (simp; done) | (simp; omega) | omega) _) | (with_reducible refine Turned.setCell ?_ (by first | (simp; done) | (simp; omega) | omega) _) | ((with_reducible apply Turned.andGrew); rotate_left; (with_reducible assumption)) | ((with_reducible apply Turned.trans); rotate_left; (with_reducible assumption)) | fail)), by have hg := HG1.out; (repeat' first | (with_reducible exact Grew.refl _) | (with_reducible assumption) | (with_reducible refine Grew.alloc ?_ _) | (with_reducible refine Grew.drew ?_) | (with_reducible refine Grew.drewN ?_ _) | (with_reducible refine Grew.setRow ?_ (by first | (simp; done) | (simp; omega) | omega) _) | (with_reducible refine Grew.setCell ?_ (by first | (simp; done) | (simp; omega) | omega) _) | ((with_reducible apply Grew.trans); rotate_left; (with_reducible assumption)) | ((with_reducible apply Grew.turn); rotate_left; (with_reducible assumption); (focus (intro i hi; first | omega | (simp at hi; omega)))) | fail)⟩
  rw [if_neg e1] at hr
  by_cases e2 : r = 2
  · rw [if_pos e2] at hr
    subst e2
    have HC := Lib.hid (release_tab A c xs T id unit _ HTB.out hs n n0 n1 T' er hr)
    clear hr hs hr0 hr6
    go_enter Tryz.func22, Tryz.ntmps22
    go_wp2_with fail
    refine HC.out.mono ?_
    rintro e w1 ⟨A1, c1, ys, rfl, ht1, g1⟩
    have HZ1 := Lib.hid (HZ0.out.grew g1)
    have HG1 := Lib.hid (HG0.out.trans g1)
    have HT1 := Lib.hid (fun w2 (ht : Turned (fun x => x = w.heap.size + 1 + 1) w1 w2) => ht1.apart HZ1.out ht)
    clear ht1 g1 HC HTB HX HB0 HO0
    have z0 := HZ1.out.cell 0
    have z1 := HZ1.out.cell 1
    have z2 := HZ1.out.cell 2
    have f0 := HZ1.out.frozen 0
    have f1 := HZ1.out.frozen 1
    have f2 := HZ1.out.frozen 2
    have hzl := HZ1.out.lt
    go_wp2_with fail
    refine bodyPost_ret (by first | (simp [*, results, Tryz.results22, go_sem]; rfl) | simp [*, results, Tryz.results22, go_sem]) rfl ?_
    exact ⟨A1, c1, ys, rfl, HT1.out _ (by (repeat' first | (with_reducible exact Turned.refl _ _) | (with_reducible assumption) | (with_reducible refine Turned.alloc ?_ _) | (with_reducible refine Turned.drew ?_) | (with_reducible refine Turned.drewN ?_ _) | (with_reducible refine Turned.setRow ?_ (by first | (simp; done) | (simp; omega) | omega) _) | (with_reducible refine Turned.setCell ?_ (by first | (simp; done) | (simp; omega) | omega) _) | ((with_reducible apply Turned.andGrew); rotate_left; (with_reducible assumption)) | ((with_reducible apply Turned.trans); rotate_left; (with_reducible assumption)) | fail)), by have hg := HG1.out; (repeat' first | (with_reducible exact Grew.refl _) | (with_reducible assumption) | (with_reducible refine Grew.alloc ?_ _) | (with_reducible refine Grew.drew ?_) | (with_reducible refine Grew.drewN ?_ _) | (with_reducible refine Grew.setRow ?_ (by first | (simp; done) | (simp; omega) | omega) _) | (with_reducible refine Grew.setCell ?_ (by first | (simp; done) | (simp; omega) | omega) _) | ((with_reducible apply Grew.trans); rotate_left; (with_reducible assumption)) | ((with_reducible apply Grew.turn); rotate_left; (with_reducible assumption); (focus (intro i hi; first | omega | (simp at hi; omega)))) | fail)⟩
  rw [if_neg e2] at hr
  by_cases e3 : r = 3
  · rw [if_pos e3] at hr
    subst e3
    have HC := Lib.hid (replace_tab A c xs T id unit _ HTB.out hs B d ex HX.out hxl T' er hr)
    clear hr hs hr0 hr6
    go_enter Tryz.func22, Tryz.ntmps22
    go_wp2_with fail
    refine HC.out.mono ?_
    rintro e w1 ⟨A1, c1, ys, rfl, ht1, g1⟩
    have HZ1 := Lib.hid (HZ0.out.grew g1)
    have HG1 := Lib.hid (HG0.out.trans g1)
    have HT1 := Lib.hid (fun w2 (ht : Turned (fun x => x = w.heap.size + 1 + 1) w1 w2) => ht1.apart HZ1.out ht)
    clear ht1 g1 HC HTB HX HB0 HO0
    have z0 := HZ1.out.cell 0
    have z1 := HZ1.out.cell 1
    have z2 := HZ1.out.cell 2
    have f0 := HZ1.out.frozen 0
    have f1 := HZ1.out.frozen 1
    have f2 := HZ1.out.frozen 2
    have hzl := HZ1.out.lt
    go_wp2_with fail
    refine bodyPost_ret (by first | (simp [*, results, Tryz.results22, go_sem]; rfl) | simp [*, results, Tryz.results22, go_sem]) rfl ?_
    exact ⟨A1, c1, ys, rfl, HT1.out _ (by (repeat' first | (with_reducible exact Turned.refl _ _) | (with_reducible assumption) | (with_reducible refine Turned.alloc ?_ _) | (with_reducible refine Turned.drew ?_) | (with_reducible refine Turned.drewN ?_ _) | (with_reducible refine Turned.setRow ?_ (by first | (simp; done) | (simp; omega) | omega) _) | (with_reducible refine Turned.setCell ?_ (by first | (simp; done) | (simp; omega) | omega) _) | ((with_reducible apply Turned.andGrew); rotate_left; (with_reducible assumption)) | ((with_reducible apply Turned.trans); rotate_left; (with_reducible assumption)) | fail)), by have hg := HG1.out; (repeat' first | (with_reducible exact Grew.refl _) | (with_reducible assumption) | (with_reducible refine Grew.alloc ?_ _) | (with_reducible refine Grew.drew ?_) | (with_reducible refine Grew.drewN ?_ _) | (with_reducible refine Grew.setRow ?_ (by first | (simp; done) | (simp; omega) | omega) _) | (with_reducible refine Grew.setCell ?_ (by first | (simp; done) | (simp; omega) | omega) _) | ((with_reducible apply Grew.trans); rotate_left; (with_reducible assumption)) | ((with_reducible apply Grew.turn); rotate_left; (with_reducible assumption); (focus (intro i hi; first | omega | (simp at hi; omega)))) | fail)⟩
  rw [if_neg e3] at hr
  by_cases e4 : r = 4
  · rw [if_pos e4] at hr
    subst e4
    have HC := Lib.hid (confirm_tab A c xs T id unit _ HTB.out hs nt hts T' er hr)
    clear hr hs hr0 hr6
    go_enter Tryz.func22, Tryz.ntmps22
    go_wp2_with fail
    refine HC.out.mono ?_
    rintro e w1 ⟨A1, c1, ys, rfl, ht1, g1⟩
    have HZ1 := Lib.hid (HZ0.out.grew g1)
    have HG1 := Lib.hid (HG0.out.trans g1)
    have HT1 := Lib.hid (fun w2 (ht : Turned (fun x => x = w.heap.size + 1 + 1) w1 w2) => ht1.apart HZ1.out ht)
    clear ht1 g1 HC HTB HX HB0 HO0
    have z0 := HZ1.out.cell 0
    have z1 := HZ1.out.cell 1
    have z2 := HZ1.out.cell 2
    have f0 := HZ1.out.frozen 0
    have f1 := HZ1.out.frozen 1
    have f2 := HZ1.out.frozen 2
    have hzl := HZ1.out.lt
    go_wp2_with fail
    refine bodyPost_ret (by first | (simp [*, results, Tryz.results22, go_sem]; rfl) | simp [*, results, Tryz.results22, go_sem]) rfl ?_
    exact ⟨A1, c1, ys, rfl, HT1.out _ (by (repeat' first | (with_reducible exact Turned.refl _ _) | (with_reducible assumption) | (with_reducible refine Turned.alloc ?_ _) | (with_reducible refine Turned.drew ?_) | (with_reducible refine Turned.drewN ?_ _) | (with_reducible refine Turned.setRow ?_ (by first | (simp; done) | (simp; omega) | omega) _) | (with_reducible refine Turned.setCell ?_ (by first | (simp; done) | (simp; omega) | omega) _) | ((with_reducible apply Turned.andGrew); rotate_left; (with_reducible assumption)) | ((with_reducible apply Turned.trans); rotate_left; (with_reducible assumption)) | fail)), by have hg := HG1.out; (repeat' first | (with_reducible exact Grew.refl _) | (with_reducible assumption) | (with_reducible refine Grew.alloc ?_ _) | (with_reducible refine Grew.drew ?_) | (with_reducible refine Grew.drewN ?_ _) | (with_reducible refine Grew.setRow ?_ (by first | (simp; done) | (simp; omega) | omega) _) | (with_reducible refine Grew.setCell ?_ (by first | (simp; done) | (simp; omega) | omega) _) | ((with_reducible apply Grew.trans); rotate_left; (with_reducible assumption)) | ((with_reducible apply Grew.turn); rotate_left; (with_reducible assumption); (focus (intro i hi; first | omega | (simp at hi; omega)))) | fail)⟩
  rw [if_neg e4] at hr
  by_cases e5 : r = 5
  · rw [if_pos e5] at hr
    subst e5
    have HC := Lib.hid (note_tab A c xs T id unit _ HTB.out hs nt hts T' er hr)
    clear hr hs hr0 hr6
    go_enter Tryz.func22, Tryz.ntmps22
    go_wp2_with fail
    refine HC.out.mono ?_
    rintro e w1 ⟨A1, c1, ys, rfl, ht1, g1⟩
    have HZ1 := Lib.hid (HZ0.out.grew g1)
    have HG1 := Lib.hid (HG0.out.trans g1)
    have HT1 := Lib.hid (fun w2 (ht : Turned (fun x => x = w.heap.size + 1 + 1) w1 w2) => ht1.apart HZ1.out ht)
    clear ht1 g1 HC HTB HX HB0 HO0
    have z0 := HZ1.out.cell 0
    have z1 := HZ1.out.cell 1
    have z2 := HZ1.out.cell 2
    have f0 := HZ1.out.frozen 0
    have f1 := HZ1.out.frozen 1
    have f2 := HZ1.out.frozen 2
    have hzl := HZ1.out.lt
    go_wp2_with fail
    refine bodyPost_ret (by first | (simp [*, results, Tryz.results22, go_sem]; rfl) | simp [*, results, Tryz.results22, go_sem]) rfl ?_
    exact ⟨A1, c1, ys, rfl, HT1.out _ (by (repeat' first | (with_reducible exact Turned.refl _ _) | (with_reducible assumption) | (with_reducible refine Turned.alloc ?_ _) | (with_reducible refine Turned.drew ?_) | (with_reducible refine Turned.drewN ?_ _) | (with_reducible refine Turned.setRow ?_ (by first | (simp; done) | (simp; omega) | omega) _) | (with_reducible refine Turned.setCell ?_ (by first | (simp; done) | (simp; omega) | omega) _) | ((with_reducible apply Turned.andGrew); rotate_left; (with_reducible assumption)) | ((with_reducible apply Turned.trans); rotate_left; (with_reducible assumption)) | fail)), by have hg := HG1.out; (repeat' first | (with_reducible exact Grew.refl _) | (with_reducible assumption) | (with_reducible refine Grew.alloc ?_ _) | (with_reducible refine Grew.drew ?_) | (with_reducible refine Grew.drewN ?_ _) | (with_reducible refine Grew.setRow ?_ (by first | (simp; done) | (simp; omega) | omega) _) | (with_reducible refine Grew.setCell ?_ (by first | (simp; done) | (simp; omega) | omega) _) | ((with_reducible apply Grew.trans); rotate_left; (with_reducible assumption)) | ((with_reducible apply Grew.turn); rotate_left; (with_reducible assumption); (focus (intro i hi; first | omega | (simp at hi; omega)))) | fail)⟩
  rw [if_neg e5] at hr
  have e6 : r = 6 := by omega
  subst e6
  have HC := Lib.hid (remove_tab A c xs T id unit _ HTB.out hs T' er hr)
  clear hr hs hr0 hr6
  go_enter Tryz.func22, Tryz.ntmps22
  go_wp2_with fail
  refine HC.out.mono ?_
  rintro e w1 ⟨A1, c1, ys, rfl, ht1, g1⟩
  have HZ1 := Lib.hid (HZ0.out.grew g1)
  have HG1 := Lib.hid (HG0.out.trans g1)
  have HT1 := Lib.hid (fun w2 (ht : Turned (fun x => x = w.heap.size + 1 + 1) w1 w2) => ht1.apart HZ1.out ht)
  clear ht1 g1 HC HTB HX HB0 HO0
  have z0 := HZ1.out.cell 0
  have z1 := HZ1.out.cell 1
  have z2 := HZ1.out.cell 2
  have f0 := HZ1.out.frozen 0
  have f1 := HZ1.out.frozen 1
  have f2 := HZ1.out.frozen 2
  have hzl := HZ1.out.lt
  go_wp2_with fail
  refine bodyPost_ret (by first | (simp [*, results, Tryz.results22, go_sem]; rfl) | simp [*, results, Tryz.results22, go_sem]) rfl ?_
  exact ⟨A1, c1, ys, rfl, HT1.out _ (by (repeat' first | (with_reducible exact Turned.refl _ _) | (with_reducible assumption) | (with_reducible refine Turned.alloc ?_ _) | (with_reducible refine Turned.drew ?_) | (with_reducible refine Turned.drewN ?_ _) | (with_reducible refine Turned.setRow ?_ (by first | (simp; done) | (simp; omega) | omega) _) | (with_reducible refine Turned.setCell ?_ (by first | (simp; done) | (simp; omega) | omega) _) | ((with_reducible apply Turned.andGrew); rotate_left; (with_reducible assumption)) | ((with_reducible apply Turned.trans); rotate_left; (with_reducible assumption)) | fail)), by have hg := HG1.out; (repeat' first | (with_reducible exact Grew.refl _) | (with_reducible assumption) | (with_reducible refine Grew.alloc ?_ _) | (with_reducible refine Grew.drew ?_) | (with_reducible refine Grew.drewN ?_ _) | (with_reducible refine Grew.setRow ?_ (by first | (simp; done) | (simp; omega) | omega) _) | (with_reducible refine Grew.setCell ?_ (by first | (simp; done) | (simp; omega) | omega) _) | ((with_reducible apply Grew.trans); rotate_left; (with_reducible assumption)) | ((with_reducible apply Grew.turn); rotate_left; (with_reducible assumption); (focus (intro i hi; first | omega | (simp at hi; omega)))) | fail)⟩
set_option maxRecDepth 100000 in
set_option maxHeartbeats 16000000 in
theorem rdo_tab (h : TabAt w A c xs T) (hs : SmallT T) (hk : k < 256) (hns : nm.size ≤ 9223372036854775807) (hts : nt.size ≤ 9223372036854775807) (n0 : -9223372036854775808 ≤ n) (n1 : n ≤ 9223372036854775807) (hx : RunsAt w w.heap.size B ex) (hxl : ex.length ≤ 1000) (T' : Tab) (er : Int) (hr : doT T id unit nm nt n ex ((k : Int) % 7) = (T', er)) :
    Calls Tryz.prog 23 #[.agg #[.string T.name, .int .i64 T.tracks, .slice A T.labels.length c], .agg #[.int .u8 (k : Int), .int .i64 id, .int .i64 unit, .string nm, .string nt, .int .i64 n, .slice B ex.length d]] w (TabR w T' er) := by
  have hg0 := (((Grew.refl w).alloc (.cells #[.string T.name, .int .i64 T.tracks, .slice A T.labels.length c] 24)).alloc (.cells #[.int .u8 (k : Int), .int .i64 id, .int .i64 unit, .string nm, .string nt, .int .i64 n, .slice B ex.length d] 43)).alloc (.cells #[.string ⟨#[]⟩, .int .i64 0, .slice none 0 0] 24)
  have HB0 := Lib.hid (((Blk.new w 24 #[.string T.name, .int .i64 T.tracks, .slice A T.labels.length c] rfl).alloc (.cells #[.int .u8 (k : Int), .int .i64 id, .int .i64 unit, .string nm, .string nt, .int .i64 n, .slice B ex.length d] 43)).alloc (.cells #[.string ⟨#[]⟩, .int .i64 0, .slice none 0 0] 24))
  have HO0 := Lib.hid ((Blk.new (w.alloc (.cells #[.string T.name, .int .i64 T.tracks, .slice A T.labels.length c] 24)) 43 #[.int .u8 (k : Int), .int .i64 id, .int .i64 unit, .string nm, .string nt, .int .i64 n, .slice B ex.length d] (n := w.heap.size + 1) (by simp)).alloc (.cells #[.string ⟨#[]⟩, .int .i64 0, .slice none 0 0] 24))
  have HZ0 := Lib.hid (Blk.new ((w.alloc (.cells #[.string T.name, .int .i64 T.tracks, .slice A T.labels.length c] 24)).alloc (.cells #[.int .u8 (k : Int), .int .i64 id, .int .i64 unit, .string nm, .string nt, .int .i64 n, .slice B ex.length d] 43)) 24 #[.string ⟨#[]⟩, .int .i64 0, .slice none 0 0] (n := w.heap.size + 1 + 1) (by simp))
  have HTB := Lib.hid (h.hold hg0)
  have HX := Lib.hid (RunsAt.hold (w := w) hx hg0)
  have HG0 := Lib.hid hg0
  obtain ⟨r, hrr⟩ : ∃ r : Int, (k : Int) % 7 = r := ⟨_, rfl⟩
  have hr0 : 0 ≤ r := by omega
  have hr6 : r ≤ 6 := by omega
  rw [hrr] at hr
  unfold doT at hr
  clear h hx hg0
  by_cases e0 : r = 0
  · rw [if_pos e0] at hr
    subst e0
    have HC := Lib.hid (rcreate_tab A c xs T id unit _ HTB.out hs nm nt hns hts n n0 n1 T' er hr)
    clear hr hs hr0 hr6
    go_enter Tryz.func23, Tryz.ntmps23
    go_wp2_with fail
    refine HC.out.mono ?_
    rintro e w1 ⟨A1, c1, ys, rfl, ht1, g1⟩
    have HZ1 := Lib.hid (HZ0.out.grew g1)
    have HG1 := Lib.hid (HG0.out.trans g1)
    have HT1 := Lib.hid (fun w2 (ht : Turned (fun x => x = w.heap.size + 1 + 1) w1 w2) => ht1.apart HZ1.out ht)
    clear ht1 g1 HC HTB HX HB0 HO0
    have z0 := HZ1.out.cell 0
    have z1 := HZ1.out.cell 1
    have z2 := HZ1.out.cell 2
    have f0 := HZ1.out.frozen 0
    have f1 := HZ1.out.frozen 1
    have f2 := HZ1.out.frozen 2
    have hzl := HZ1.out.lt
    go_wp2_with fail
    refine bodyPost_ret (by first | (simp [*, results, Tryz.results23, go_sem]; rfl) | simp [*, results, Tryz.results23, go_sem]) rfl ?_
    exact ⟨A1, c1, ys, rfl, HT1.out _ (by (repeat' first | (with_reducible exact Turned.refl _ _) | (with_reducible assumption) | (with_reducible refine Turned.alloc ?_ _) | (with_reducible refine Turned.drew ?_) | (with_reducible refine Turned.drewN ?_ _) | (with_reducible refine Turned.setRow ?_ (by first | (simp; done) | (simp; omega) | omega) _) | (with_reducible refine Turned.setCell ?_ (by first | (simp; done) | (simp; omega) | omega) _) | ((with_reducible apply Turned.andGrew); rotate_left; (with_reducible assumption)) | ((with_reducible apply Turned.trans); rotate_left; (with_reducible assumption)) | fail)), by have hg := HG1.out; (repeat' first | (with_reducible exact Grew.refl _) | (with_reducible assumption) | (with_reducible refine Grew.alloc ?_ _) | (with_reducible refine Grew.drew ?_) | (with_reducible refine Grew.drewN ?_ _) | (with_reducible refine Grew.setRow ?_ (by first | (simp; done) | (simp; omega) | omega) _) | (with_reducible refine Grew.setCell ?_ (by first | (simp; done) | (simp; omega) | omega) _) | ((with_reducible apply Grew.trans); rotate_left; (with_reducible assumption)) | ((with_reducible apply Grew.turn); rotate_left; (with_reducible assumption); (focus (intro i hi; first | omega | (simp at hi; omega)))) | fail)⟩
  rw [if_neg e0] at hr
  by_cases e1 : r = 1
  · rw [if_pos e1] at hr
    subst e1
    have HC := Lib.hid (rextend_tab A c xs T id unit _ HTB.out hs n n0 n1 T' er hr)
    clear hr hs hr0 hr6
    go_enter Tryz.func23, Tryz.ntmps23
    go_wp2_with fail
    refine HC.out.mono ?_
    rintro e w1 ⟨A1, c1, ys, rfl, ht1, g1⟩
    have HZ1 := Lib.hid (HZ0.out.grew g1)
    have HG1 := Lib.hid (HG0.out.trans g1)
    have HT1 := Lib.hid (fun w2 (ht : Turned (fun x => x = w.heap.size + 1 + 1) w1 w2) => ht1.apart HZ1.out ht)
    clear ht1 g1 HC HTB HX HB0 HO0
    have z0 := HZ1.out.cell 0
    have z1 := HZ1.out.cell 1
    have z2 := HZ1.out.cell 2
    have f0 := HZ1.out.frozen 0
    have f1 := HZ1.out.frozen 1
    have f2 := HZ1.out.frozen 2
    have hzl := HZ1.out.lt
    go_wp2_with fail
    refine bodyPost_ret (by first | (simp [*, results, Tryz.results23, go_sem]; rfl) | simp [*, results, Tryz.results23, go_sem]) rfl ?_
    exact ⟨A1, c1, ys, rfl, HT1.out _ (by (repeat' first | (with_reducible exact Turned.refl _ _) | (with_reducible assumption) | (with_reducible refine Turned.alloc ?_ _) | (with_reducible refine Turned.drew ?_) | (with_reducible refine Turned.drewN ?_ _) | (with_reducible refine Turned.setRow ?_ (by first | (simp; done) | (simp; omega) | omega) _) | (with_reducible refine Turned.setCell ?_ (by first | (simp; done) | (simp; omega) | omega) _) | ((with_reducible apply Turned.andGrew); rotate_left; (with_reducible assumption)) | ((with_reducible apply Turned.trans); rotate_left; (with_reducible assumption)) | fail)), by have hg := HG1.out; (repeat' first | (with_reducible exact Grew.refl _) | (with_reducible assumption) | (with_reducible refine Grew.alloc ?_ _) | (with_reducible refine Grew.drew ?_) | (with_reducible refine Grew.drewN ?_ _) | (with_reducible refine Grew.setRow ?_ (by first | (simp; done) | (simp; omega) | omega) _) | (with_reducible refine Grew.setCell ?_ (by first | (simp; done) | (simp; omega) | omega) _) | ((with_reducible apply Grew.trans); rotate_left; (with_reducible assumption)) | ((with_reducible apply Grew.turn); rotate_left; (with_reducible assumption); (focus (intro i hi; first | omega | (simp at hi; omega)))) | fail)⟩
  rw [if_neg e1] at hr
  by_cases e2 : r = 2
  · rw [if_pos e2] at hr
    subst e2
    have HC := Lib.hid (rrelease_tab A c xs T id unit _ HTB.out hs n n0 n1 T' er hr)
    clear hr hs hr0 hr6
    go_enter Tryz.func23, Tryz.ntmps23
    go_wp2_with fail
    refine HC.out.mono ?_
    rintro e w1 ⟨A1, c1, ys, rfl, ht1, g1⟩
    have HZ1 := Lib.hid (HZ0.out.grew g1)
    have HG1 := Lib.hid (HG0.out.trans g1)
    have HT1 := Lib.hid (fun w2 (ht : Turned (fun x => x = w.heap.size + 1 + 1) w1 w2) => ht1.apart HZ1.out ht)
    clear ht1 g1 HC HTB HX HB0 HO0
    have z0 := HZ1.out.cell 0
    have z1 := HZ1.out.cell 1
    have z2 := HZ1.out.cell 2
    have f0 := HZ1.out.frozen 0
    have f1 := HZ1.out.frozen 1
    have f2 := HZ1.out.frozen 2
    have hzl := HZ1.out.lt
    go_wp2_with fail
    refine bodyPost_ret (by first | (simp [*, results, Tryz.results23, go_sem]; rfl) | simp [*, results, Tryz.results23, go_sem]) rfl ?_
    exact ⟨A1, c1, ys, rfl, HT1.out _ (by (repeat' first | (with_reducible exact Turned.refl _ _) | (with_reducible assumption) | (with_reducible refine Turned.alloc ?_ _) | (with_reducible refine Turned.drew ?_) | (with_reducible refine Turned.drewN ?_ _) | (with_reducible refine Turned.setRow ?_ (by first | (simp; done) | (simp; omega) | omega) _) | (with_reducible refine Turned.setCell ?_ (by first | (simp; done) | (simp; omega) | omega) _) | ((with_reducible apply Turned.andGrew); rotate_left; (with_reducible assumption)) | ((with_reducible apply Turned.trans); rotate_left; (with_reducible assumption)) | fail)), by have hg := HG1.out; (repeat' first | (with_reducible exact Grew.refl _) | (with_reducible assumption) | (with_reducible refine Grew.alloc ?_ _) | (with_reducible refine Grew.drew ?_) | (with_reducible refine Grew.drewN ?_ _) | (with_reducible refine Grew.setRow ?_ (by first | (simp; done) | (simp; omega) | omega) _) | (with_reducible refine Grew.setCell ?_ (by first | (simp; done) | (simp; omega) | omega) _) | ((with_reducible apply Grew.trans); rotate_left; (with_reducible assumption)) | ((with_reducible apply Grew.turn); rotate_left; (with_reducible assumption); (focus (intro i hi; first | omega | (simp at hi; omega)))) | fail)⟩
  rw [if_neg e2] at hr
  by_cases e3 : r = 3
  · rw [if_pos e3] at hr
    subst e3
    have HC := Lib.hid (rreplace_tab A c xs T id unit _ HTB.out hs B d ex HX.out hxl T' er hr)
    clear hr hs hr0 hr6
    go_enter Tryz.func23, Tryz.ntmps23
    go_wp2_with fail
    refine HC.out.mono ?_
    rintro e w1 ⟨A1, c1, ys, rfl, ht1, g1⟩
    have HZ1 := Lib.hid (HZ0.out.grew g1)
    have HG1 := Lib.hid (HG0.out.trans g1)
    have HT1 := Lib.hid (fun w2 (ht : Turned (fun x => x = w.heap.size + 1 + 1) w1 w2) => ht1.apart HZ1.out ht)
    clear ht1 g1 HC HTB HX HB0 HO0
    have z0 := HZ1.out.cell 0
    have z1 := HZ1.out.cell 1
    have z2 := HZ1.out.cell 2
    have f0 := HZ1.out.frozen 0
    have f1 := HZ1.out.frozen 1
    have f2 := HZ1.out.frozen 2
    have hzl := HZ1.out.lt
    go_wp2_with fail
    refine bodyPost_ret (by first | (simp [*, results, Tryz.results23, go_sem]; rfl) | simp [*, results, Tryz.results23, go_sem]) rfl ?_
    exact ⟨A1, c1, ys, rfl, HT1.out _ (by (repeat' first | (with_reducible exact Turned.refl _ _) | (with_reducible assumption) | (with_reducible refine Turned.alloc ?_ _) | (with_reducible refine Turned.drew ?_) | (with_reducible refine Turned.drewN ?_ _) | (with_reducible refine Turned.setRow ?_ (by first | (simp; done) | (simp; omega) | omega) _) | (with_reducible refine Turned.setCell ?_ (by first | (simp; done) | (simp; omega) | omega) _) | ((with_reducible apply Turned.andGrew); rotate_left; (with_reducible assumption)) | ((with_reducible apply Turned.trans); rotate_left; (with_reducible assumption)) | fail)), by have hg := HG1.out; (repeat' first | (with_reducible exact Grew.refl _) | (with_reducible assumption) | (with_reducible refine Grew.alloc ?_ _) | (with_reducible refine Grew.drew ?_) | (with_reducible refine Grew.drewN ?_ _) | (with_reducible refine Grew.setRow ?_ (by first | (simp; done) | (simp; omega) | omega) _) | (with_reducible refine Grew.setCell ?_ (by first | (simp; done) | (simp; omega) | omega) _) | ((with_reducible apply Grew.trans); rotate_left; (with_reducible assumption)) | ((with_reducible apply Grew.turn); rotate_left; (with_reducible assumption); (focus (intro i hi; first | omega | (simp at hi; omega)))) | fail)⟩
  rw [if_neg e3] at hr
  by_cases e4 : r = 4
  · rw [if_pos e4] at hr
    subst e4
    have HC := Lib.hid (rconfirm_tab A c xs T id unit _ HTB.out hs nt hts T' er hr)
    clear hr hs hr0 hr6
    go_enter Tryz.func23, Tryz.ntmps23
    go_wp2_with fail
    refine HC.out.mono ?_
    rintro e w1 ⟨A1, c1, ys, rfl, ht1, g1⟩
    have HZ1 := Lib.hid (HZ0.out.grew g1)
    have HG1 := Lib.hid (HG0.out.trans g1)
    have HT1 := Lib.hid (fun w2 (ht : Turned (fun x => x = w.heap.size + 1 + 1) w1 w2) => ht1.apart HZ1.out ht)
    clear ht1 g1 HC HTB HX HB0 HO0
    have z0 := HZ1.out.cell 0
    have z1 := HZ1.out.cell 1
    have z2 := HZ1.out.cell 2
    have f0 := HZ1.out.frozen 0
    have f1 := HZ1.out.frozen 1
    have f2 := HZ1.out.frozen 2
    have hzl := HZ1.out.lt
    go_wp2_with fail
    refine bodyPost_ret (by first | (simp [*, results, Tryz.results23, go_sem]; rfl) | simp [*, results, Tryz.results23, go_sem]) rfl ?_
    exact ⟨A1, c1, ys, rfl, HT1.out _ (by (repeat' first | (with_reducible exact Turned.refl _ _) | (with_reducible assumption) | (with_reducible refine Turned.alloc ?_ _) | (with_reducible refine Turned.drew ?_) | (with_reducible refine Turned.drewN ?_ _) | (with_reducible refine Turned.setRow ?_ (by first | (simp; done) | (simp; omega) | omega) _) | (with_reducible refine Turned.setCell ?_ (by first | (simp; done) | (simp; omega) | omega) _) | ((with_reducible apply Turned.andGrew); rotate_left; (with_reducible assumption)) | ((with_reducible apply Turned.trans); rotate_left; (with_reducible assumption)) | fail)), by have hg := HG1.out; (repeat' first | (with_reducible exact Grew.refl _) | (with_reducible assumption) | (with_reducible refine Grew.alloc ?_ _) | (with_reducible refine Grew.drew ?_) | (with_reducible refine Grew.drewN ?_ _) | (with_reducible refine Grew.setRow ?_ (by first | (simp; done) | (simp; omega) | omega) _) | (with_reducible refine Grew.setCell ?_ (by first | (simp; done) | (simp; omega) | omega) _) | ((with_reducible apply Grew.trans); rotate_left; (with_reducible assumption)) | ((with_reducible apply Grew.turn); rotate_left; (with_reducible assumption); (focus (intro i hi; first | omega | (simp at hi; omega)))) | fail)⟩
  rw [if_neg e4] at hr
  by_cases e5 : r = 5
  · rw [if_pos e5] at hr
    subst e5
    have HC := Lib.hid (rnote_tab A c xs T id unit _ HTB.out hs nt hts T' er hr)
    clear hr hs hr0 hr6
    go_enter Tryz.func23, Tryz.ntmps23
    go_wp2_with fail
    refine HC.out.mono ?_
    rintro e w1 ⟨A1, c1, ys, rfl, ht1, g1⟩
    have HZ1 := Lib.hid (HZ0.out.grew g1)
    have HG1 := Lib.hid (HG0.out.trans g1)
    have HT1 := Lib.hid (fun w2 (ht : Turned (fun x => x = w.heap.size + 1 + 1) w1 w2) => ht1.apart HZ1.out ht)
    clear ht1 g1 HC HTB HX HB0 HO0
    have z0 := HZ1.out.cell 0
    have z1 := HZ1.out.cell 1
    have z2 := HZ1.out.cell 2
    have f0 := HZ1.out.frozen 0
    have f1 := HZ1.out.frozen 1
    have f2 := HZ1.out.frozen 2
    have hzl := HZ1.out.lt
    go_wp2_with fail
    refine bodyPost_ret (by first | (simp [*, results, Tryz.results23, go_sem]; rfl) | simp [*, results, Tryz.results23, go_sem]) rfl ?_
    exact ⟨A1, c1, ys, rfl, HT1.out _ (by (repeat' first | (with_reducible exact Turned.refl _ _) | (with_reducible assumption) | (with_reducible refine Turned.alloc ?_ _) | (with_reducible refine Turned.drew ?_) | (with_reducible refine Turned.drewN ?_ _) | (with_reducible refine Turned.setRow ?_ (by first | (simp; done) | (simp; omega) | omega) _) | (with_reducible refine Turned.setCell ?_ (by first | (simp; done) | (simp; omega) | omega) _) | ((with_reducible apply Turned.andGrew); rotate_left; (with_reducible assumption)) | ((with_reducible apply Turned.trans); rotate_left; (with_reducible assumption)) | fail)), by have hg := HG1.out; (repeat' first | (with_reducible exact Grew.refl _) | (with_reducible assumption) | (with_reducible refine Grew.alloc ?_ _) | (with_reducible refine Grew.drew ?_) | (with_reducible refine Grew.drewN ?_ _) | (with_reducible refine Grew.setRow ?_ (by first | (simp; done) | (simp; omega) | omega) _) | (with_reducible refine Grew.setCell ?_ (by first | (simp; done) | (simp; omega) | omega) _) | ((with_reducible apply Grew.trans); rotate_left; (with_reducible assumption)) | ((with_reducible apply Grew.turn); rotate_left; (with_reducible assumption); (focus (intro i hi; first | omega | (simp at hi; omega)))) | fail)⟩
  rw [if_neg e5] at hr
  have e6 : r = 6 := by omega
  subst e6
  have HC := Lib.hid (rremove_tab A c xs T id unit _ HTB.out hs T' er hr)
  clear hr hs hr0 hr6
  go_enter Tryz.func23, Tryz.ntmps23
  go_wp2_with fail
  refine HC.out.mono ?_
  rintro e w1 ⟨A1, c1, ys, rfl, ht1, g1⟩
  have HZ1 := Lib.hid (HZ0.out.grew g1)
  have HG1 := Lib.hid (HG0.out.trans g1)
  have HT1 := Lib.hid (fun w2 (ht : Turned (fun x => x = w.heap.size + 1 + 1) w1 w2) => ht1.apart HZ1.out ht)
  clear ht1 g1 HC HTB HX HB0 HO0
  have z0 := HZ1.out.cell 0
  have z1 := HZ1.out.cell 1
  have z2 := HZ1.out.cell 2
  have f0 := HZ1.out.frozen 0
  have f1 := HZ1.out.frozen 1
  have f2 := HZ1.out.frozen 2
  have hzl := HZ1.out.lt
  go_wp2_with fail
  refine bodyPost_ret (by first | (simp [*, results, Tryz.results23, go_sem]; rfl) | simp [*, results, Tryz.results23, go_sem]) rfl ?_
  exact ⟨A1, c1, ys, rfl, HT1.out _ (by (repeat' first | (with_reducible exact Turned.refl _ _) | (with_reducible assumption) | (with_reducible refine Turned.alloc ?_ _) | (with_reducible refine Turned.drew ?_) | (with_reducible refine Turned.drewN ?_ _) | (with_reducible refine Turned.setRow ?_ (by first | (simp; done) | (simp; omega) | omega) _) | (with_reducible refine Turned.setCell ?_ (by first | (simp; done) | (simp; omega) | omega) _) | ((with_reducible apply Turned.andGrew); rotate_left; (with_reducible assumption)) | ((with_reducible apply Turned.trans); rotate_left; (with_reducible assumption)) | fail)), by have hg := HG1.out; (repeat' first | (with_reducible exact Grew.refl _) | (with_reducible assumption) | (with_reducible refine Grew.alloc ?_ _) | (with_reducible refine Grew.drew ?_) | (with_reducible refine Grew.drewN ?_ _) | (with_reducible refine Grew.setRow ?_ (by first | (simp; done) | (simp; omega) | omega) _) | (with_reducible refine Grew.setCell ?_ (by first | (simp; done) | (simp; omega) | omega) _) | ((with_reducible apply Grew.trans); rotate_left; (with_reducible assumption)) | ((with_reducible apply Grew.turn); rotate_left; (with_reducible assumption); (focus (intro i hi; first | omega | (simp at hi; omega)))) | fail)⟩
end
end Go.Proofs.YtnlaogneceanoaaGreat
namespace Go.Proofs.YtnlaogneceanoaaGreat
set_option linter.unusedVariables false
set_option linter.unusedSimpArgs false
set_option linter.unusedSectionVars false
open Go.ChangeShapes Go.WideShapes Go.ChangeAt Go.RowKit Go.Deep
attribute [local go_sem ↓] Go.wp_at_zero Go.wp_at_succ
section
variable {H : Type} {enc : TypeId × Value → H} {w : World}
set_option maxRecDepth 100000 in
theorem open_tabC {n : Nat} {cs : List Value} {y : DataW H × List MemPlace} (hlen : cs.length = 3) (h : DataW.trod enc Tryz.prog w 0 (fun _ => true) true n 24 cs = some y) :
    ∃ A c, ∃ T : Tab, cs = [.string T.name, .int .i64 T.tracks, .slice A T.labels.length c] ∧ ∃ xs, TabAt w A c xs T := by
  have hf := struct_fields Tryz.underlying24 (by kernel_rfl) h
  obtain ⟨v0, _, _, e0, f0⟩ := hf 0 _ rfl (by omega)
  obtain ⟨v1, _, _, e1, f1⟩ := hf 1 _ rfl (by omega)
  obtain ⟨v2, _, _, e2, f2⟩ := hf 2 _ rfl (by omega)
  obtain ⟨n0, hn0, _, w0⟩ := DataW.trod_string Tryz.underlying9 f0
  obtain ⟨n1, hn1, _, w1⟩ := DataW.trod_int Tryz.underlying3 f1
  obtain ⟨A, c, xs, rfl, h1, h2, h3, h4⟩ := open_listF (α := LabE) (sz := 5) Tryz.underlying22 (by kernel_rfl) (by omega) labC (fun x => LabAt w x.A x.c x.l) (fun n cs y hlen h => by
      obtain ⟨A, c, l, hcs, hl⟩ := open_labelC hlen h
      exact ⟨⟨A, c, l⟩, hl, hcs⟩) f2
  injection hn0 with hn0 _
  injection hn1 with hn1 _
  subst hn0; subst hn1
  have b1 := wf_i64 w1
  unfold maxLen at w0
  refine ⟨A, c, ⟨n0, n1, xs.map (·.l)⟩, ?_, xs, ⟨h3, h4, h1, h2, rfl, b1.1, b1.2, by simpa using w0⟩⟩
  match cs, hlen with
  | [x0, x1, x2], _ =>
    simp at e0 e1 e2
    rw [e0, e1, e2]
    simp
set_option maxRecDepth 100000 in
theorem open_tab {r : Reach} {b0 : Nat} {v : Value} {d : DataW H} {ps : List MemPlace} (hv : Value.okWide Tryz.prog w r b0 24 v) (hd : DataW.Trod enc Tryz.prog w 0 (fun _ => true) true 24 v d ps) :
    ∃ A c, ∃ T : Tab, v = .agg #[.string T.name, .int .i64 T.tracks, .slice A T.labels.length c] ∧ ∃ xs, TabAt w A c xs T := by
  obtain ⟨cs, rfl, hsz⟩ := okWide_struct Tryz.underlying24 hv
  obtain ⟨fuel, hf⟩ := hd
  obtain ⟨A, c, T, hcs, h⟩ := open_tabC (cs := cs.toList) (by rw [Array.length_toList, hsz]; kernel_rfl) hf
  refine ⟨A, c, T, ?_, h⟩
  congr 1
  exact Array.toList_inj.1 hcs
end
def fewT (T : Tab) : Bool := T.labels.all fewL && (decide (T.name.size ≤ 100) && decide (T.labels.length ≤ 40))
theorem fewT_facts {T : Tab} (h : fewT T = true) : SmallT T ∧ T.name.size ≤ 100 ∧ T.labels.length ≤ 40 ∧ ∀ l ∈ T.labels, fewL l = true := by
  unfold fewT at h
  simp only [Bool.and_eq_true, decide_eq_true_eq, List.all_eq_true] at h
  obtain ⟨h1, h2, h3⟩ := h
  exact ⟨⟨by omega, fun l hl => by have := (fewL_len l (h1 l hl)).2.2; omega⟩, h2, h3, h1⟩
set_option maxRecDepth 100000 in
set_option maxHeartbeats 4000000 in
theorem fewT_any (A : Option Addr) (c : Nat) (xs : List LabE) (T : Tab) (w : World) (h : TabAt w A c xs T) :
    Calls Tryz.prog 7 #[.agg #[.string T.name, .int .i64 T.tracks, .slice A T.labels.length c]] w fun e w' => e = .returned (.bool (fewT T)) ∧ Grew w w' := by
  have hnm := h.name
  have hll : T.labels.length ≤ 9223372036854775807 := by rw [← h.xlen]; exact Nat.le_trans h.len h.cap
  have hg0 := (Grew.refl w).alloc (.cells #[.string T.name, .int .i64 T.tracks, .slice A T.labels.length c] 24)
  have hb0 := Blk.new w 24 #[.string T.name, .int .i64 T.tracks, .slice A T.labels.length c] rfl
  have HTB := Lib.hid h
  have HFE := Lib.hid (show fewT T = (T.labels.all fewL && (decide (T.name.size ≤ 100) && decide (T.labels.length ≤ 40))) from rfl)
  clear h
  have x2 := hb0.cell 2
  go_enter Tryz.func7, Tryz.ntmps7
  go_wp2_with fail
  go_loopg [3] T.labels.length (fun gk i wr => ∃ k : Nat, k ≤ T.labels.length ∧ gk = T.labels.length - k ∧ i = .int .i64 k ∧ (∀ j (hj : j < T.labels.length), j < k → fewL T.labels[j] = true) ∧ Blk wr w.heap.size 24 #[.string T.name, .int .i64 T.tracks, .slice A T.labels.length c] ∧ Grew w wr)
  case atStart => exact ⟨0, by omega, by omega, rfl, fun j _ h => by omega, hb0, hg0⟩
  case round =>
    obtain ⟨k, hk, hgk, rfl, hall, hb, hg⟩ := hrel
    have HGK := Lib.hid hgk
    have HA := Lib.hid hall
    have HG := Lib.hid hg
    have HB := Lib.hid hb
    clear x2
    have x0 := hb.cell 0
    have x2 := hb.cell 2
    have hbl0 := hb.lt
    clear hgk hall hb0 hg0
    by_cases hlt : k < T.labels.length
    · obtain ⟨b, off, B, d, l, rfl, hbl, hxk, hv, hla, c0, c1, c2, c3, c4⟩ := (HTB.out.hold hg).at_ hlt
      have HF := Lib.hid (few_any B d l wr hla)
      have HV := Lib.hid hv
      clear hv hxk hla hb hg
      go_wp2_with fail
      refine HF.out.mono ?_
      rintro e w3 ⟨rfl, g3⟩
      cases hfl : fewL l with
      | false =>
        have HE := Lib.hid (show fewT T = false from by
          rw [HFE.out]
          have : T.labels.all fewL = false := List.all_eq_false.2 ⟨T.labels[k], List.getElem_mem hlt, by rw [HV.out, hfl]; simp⟩
          rw [this]; rfl)
        clear hfl
        go_wp2_with fail
        go_ret
        exact ⟨ret_bool (by rw [HE.out]), HG.out.trans g3⟩
      | true =>
        have HN := Lib.hid (show ∀ j (hj : j < T.labels.length), j < k + 1 → fewL T.labels[j] = true from fun j hj hjk => by
          by_cases hjk' : j = k
          · subst hjk'; rw [HV.out]; exact hfl
          · exact HA.out j hj (by omega))
        have HB3 := Lib.hid (HB.out.grew g3)
        have HG3 := Lib.hid (HG.out.trans g3)
        clear hfl g3
        go_wp2_with fail
        go_roundg (T.labels.length - (k + 1))
        case measure => rw [HGK.out]; omega
        case rel => exact ⟨k + 1, by omega, by omega, by go_num, HN.out, HB3.out, HG3.out⟩
    · have HAL := Lib.hid (show T.labels.all fewL = true from List.all_eq_true.2 (fun l hl => by
        obtain ⟨j, hj, rfl⟩ := List.getElem_of_mem hl
        exact HA.out j hj (by omega)))
      clear hb hg
      by_cases h1 : T.name.size ≤ 100
      · have h1i : (T.name.size : Int) ≤ 100 := by omega
        by_cases h2 : T.labels.length ≤ 40
        · have h2i : (T.labels.length : Int) ≤ 40 := by omega
          have HE := Lib.hid (HFE.out.trans (by rw [HAL.out, decide_eq_true h1, decide_eq_true h2]; rfl) : fewT T = true)
          go_wp2_with fail
          go_ret
          exact ⟨ret_bool (by rw [HE.out]), HG.out⟩
        · have h2i : ¬ (T.labels.length : Int) ≤ 40 := by omega
          have HE := Lib.hid (HFE.out.trans (by rw [HAL.out, decide_eq_true h1, decide_eq_false h2]; rfl) : fewT T = false)
          go_wp2_with fail
          go_ret
          exact ⟨ret_bool (by rw [HE.out]), HG.out⟩
      · have h1i : ¬ (T.name.size : Int) ≤ 100 := by omega
        have HE := Lib.hid (HFE.out.trans (by rw [HAL.out, decide_eq_false h1]; rfl) : fewT T = false)
        go_wp2_with fail
        go_ret
        exact ⟨ret_bool (by rw [HE.out]), HG.out⟩
end Go.Proofs.YtnlaogneceanoaaGreat
namespace Go.Proofs.YtnlaogneceanoaaGreat
set_option linter.unusedVariables false
set_option linter.unusedSimpArgs false
set_option linter.unusedSectionVars false
open Go.RowKit Go.Shelf Go.Lib
attribute [local go_sem ↓] Go.wp_at_zero Go.wp_at_succ
def ltP (a b : Int × Int) : Prop := a.1 < b.1 ∨ a.1 = b.1 ∧ a.2 < b.2
instance (a b : Int × Int) : Decidable (ltP a b) := by unfold ltP; exact inferInstance
end Go.Proofs.YtnlaogneceanoaaGreat
namespace Go.Proofs.YtnlaogneceanoaaGreat
set_option linter.unusedVariables false
set_option linter.unusedSimpArgs false
set_option linter.unusedSectionVars false
open Go.RowKit
theorem set_exts {ls : List Lab} {m : Nat} (h : ∀ l ∈ ls, l.ext.length ≤ m) (k : Nat) (x : Lab) (hx : x.ext.length ≤ m) : ∀ l ∈ ls.set k x, l.ext.length ≤ m := fun l hl => by
  rcases List.mem_or_eq_of_mem_set hl with hl | rfl
  · exact h l hl
  · exact hx
theorem confirm_small (T U : Tab) (id unit : Int) (note : ByteArray) (er : Int) (h : chgT T id unit (chCon T id note) = (U, er)) (hs : SmallT T) : SmallT U := by
  have hz : SmallT tabZ := ⟨by decide, fun l hl => by cases hl⟩
  rcases chgT_cases T id unit (chCon T id note) with ⟨hv, hx⟩ | ⟨hv, hi, hx⟩ | ⟨hv, k, hk, hi, hhit, ⟨h0, hx⟩ | ⟨h0, hx⟩⟩
  · rw [hx] at h; injection h with h _; rw [← h]; exact hz
  · rw [hx] at h; injection h with h _; rw [← h]; exact hz
  · rw [hx] at h; injection h with h _; rw [← h]
    have hl := hs.ext T.labels[k] (List.getElem_mem hk)
    unfold chCon at h0 ⊢
    split
    · exact hs
    · split
      · exact hs
      · refine ⟨?_, ?_⟩
        · simp only
          rw [List.length_set]
          split
          · rw [List.length_set]; exact hs.len
          · exact hs.len
        · refine set_exts ?_ _ _ hl
          split
          · exact set_exts hs.ext _ _ (by decide)
          · exact hs.ext
  · rw [hx] at h; injection h with h _; rw [← h]; exact hz
end Go.Proofs.YtnlaogneceanoaaGreat
