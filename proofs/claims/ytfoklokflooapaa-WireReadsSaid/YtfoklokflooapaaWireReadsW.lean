/- WireReads' walk. -/
import Derived.Test.YtfoklokflooapaaWireOps
import Derived.Deep.RegionHeld3
import Derived.Deep.RegionWith
import Derived.Deep.LoopGhost
import Derived.Deep.DeepCutAuto
import Derived.Deep.CutBlock
namespace Go.Proofs.Ytfoklokflooapaa
open Go.RowKit
set_option maxRecDepth 100000 in
set_option maxHeartbeats 8000000 in
theorem wireReads_core (s : ByteArray) (A : Option Addr) (c : Nat) (l : List (Nat × Int)) (w : World) (hs : s.size ≤ 500) (hl : l.length ≤ 30)
    (hops : OpsAt w w.heap.size A l) :
    Calls Try.prog 7 #[.string s, .slice A l.length c] w fun e w' => e = .returned (.bool true) ∧ Grew w w' := by
  have HO := Lib.hid hops
  clear hops
  go_enter Try.func7, Try.ntmps7
  go_wp2_with fail
  refine (awake_any w).mono ?_
  rintro e w1 ⟨rfl, g1⟩
  go_wp2_with fail
  refine (newReader_any _ _).mono ?_
  rintro e w2 ⟨g, rfl, hg, g2, hr⟩
  have hg2 : Grew w w2 := g1.trans g2
  have hgw : w.heap.size ≤ g := Nat.le_trans g1.size hg
  have hg2s : w.heap.size ≤ w2.heap.size := hg2.size
  clear g1 g2
  go_wp2_with fail
  go_loopg [41] l.length (fun gk i wr => ∃ (k : Nat) (cur : ByteArray) (err : Int), k ≤ l.length ∧ gk = l.length - k ∧ i = .int .i64 k ∧ cur.size ≤ 500 ∧ Rd wr g cur err ∧ Blk wr w2.heap.size 43 #[.string cur, .int .i64 err] ∧ Grew w wr)
  case atStart => exact ⟨0, s, 0, by omega, by omega, rfl, hs, Blk.alloc hr _, Blk.new _ _ _ rfl, by (repeat' first | (with_reducible exact Grew.refl _) | (with_reducible assumption) | (with_reducible refine Grew.alloc ?_ _) | (with_reducible refine Grew.drew ?_) | (with_reducible refine Grew.drewN ?_ _) | (with_reducible refine Grew.setRow ?_ (by first | (simp; done) | (simp; omega) | omega) _) | (with_reducible refine Grew.setCell ?_ (by first | (simp; done) | (simp; omega) | omega) _) | ((with_reducible apply Grew.trans); rotate_left; (with_reducible assumption)) | ((with_reducible apply Grew.turn); rotate_left; (with_reducible assumption); (focus (intro i hi; first | omega | (simp at hi; omega)))) | fail)⟩
  case round =>
    obtain ⟨k, cur, err, hk, hgk, rfl, hcs, hrd, hbx, hgr⟩ := hrel
    clear hr hg2
    have HGK := Lib.hid hgk
    clear hgk
    by_cases hlt : k < l.length
    · obtain ⟨b, off, kd, most, rfl, hb, -, hkd, hm0, hm1, c0, c1⟩ := (HO.out.keep (Nat.le_refl _) hgr).at_ hlt
      have hbs : b < wr.heap.size := Nat.lt_of_lt_of_le hb hgr.size
      obtain ⟨hgl, r0, r1, rf0, rf1⟩ := hrd.facts
      have hxl := hbx.lt
      have x0 := hbx.cell 0
      have x1 := hbx.cell 1
      have xf0 := hbx.frozen 0
      have xf1 := hbx.frozen 1
      have hne : g ≠ w2.heap.size := Blk.ne_ hrd hbx (by decide)
      have hgx := hg2s
      go_upto_block 2 with (fail)
      go_cut [9] (fun s9 wc => ∃ (cur' : ByteArray) (err' : Int), s9 = .bool true ∧ cur'.size ≤ 500 ∧ Rd wc g cur' err' ∧ Blk wc w2.heap.size 43 #[.string cur', .int .i64 err'] ∧ Grew w wc)
      case first =>
        have hk5 : kd % 5 = 0 ∨ kd % 5 = 1 ∨ kd % 5 = 2 ∨ kd % 5 = 3 ∨ kd % 5 = 4 := by omega
        rcases hk5 with h5 | h5 | h5 | h5 | h5
        · have e0 : ((kd : Int) % 5 == 0) = true := by first | exact beq_iff_eq.2 (by omega) | exact beq_eq_false_iff_ne.2 (by omega)
          have e1 : ((kd : Int) % 5 == 1) = false := by first | exact beq_iff_eq.2 (by omega) | exact beq_eq_false_iff_ne.2 (by omega)
          have e2 : ((kd : Int) % 5 == 2) = false := by first | exact beq_iff_eq.2 (by omega) | exact beq_eq_false_iff_ne.2 (by omega)
          have e3 : ((kd : Int) % 5 == 3) = false := by first | exact beq_iff_eq.2 (by omega) | exact beq_eq_false_iff_ne.2 (by omega)
          have e4 : ((kd : Int) % 5 == 4) = false := by first | exact beq_iff_eq.2 (by omega) | exact beq_eq_false_iff_ne.2 (by omega)
          clear h5
          go_wp2_with fail
          refine (refNumber_any cur err _ (by omega)).mono ?_
          rintro e w5 ⟨rfl, g5⟩
          have hce := g5.cellEq
          have hfe := g5.frozenEq
          have hz5 : wr.heap.size < w5.heap.size := by have := g5.size; simp at this; omega
          have hz5' : wr.heap.size ≤ w5.heap.size := by omega
          have hnz : ¬ w5.heap.size = w2.heap.size := by omega
          have hnz' : ¬ w2.heap.size = w5.heap.size := by omega
          have hnw : ¬ wr.heap.size = w2.heap.size := by omega
          have hnw' : ¬ w2.heap.size = wr.heap.size := by omega
          have hg5 : g < w5.heap.size := by omega
          have hzx : w2.heap.size < w5.heap.size := by omega
          go_wp2_with fail
          go_region_held3 (fun w' => w'.cell? ⟨w5.heap.size, 0, none⟩ = some (.string (RNum cur err).2.1) ∧ w'.cell? ⟨w5.heap.size, 1, none⟩ = some (.int .i64 (RNum cur err).2.2)) (go_keep) (first | (go_at_call 25; refine (rnumber_any g cur err _ ?_ ?_).mono ?_; (unfold Rd at hrd ⊢; (apply Blk.conv; (· (repeat' first | (with_reducible assumption) | (with_reducible apply Blk.setRow) | ((with_reducible apply Blk.farRow); rotate_left; (focus (first | (simp; done) | (simp; omega) | omega))) | (with_reducible apply Blk.drew) | (with_reducible apply Blk.drewN) | (with_reducible apply Blk.set_) | (with_reducible exact Blk.new _ _ _ (by first | rfl | (simp; done) | (simp; omega))) | (with_reducible apply Blk.alloc) | ((with_reducible apply Blk.far); rotate_left; (focus (first | (simp; done) | (simp; omega) | omega))) | ((with_reducible apply Blk.grew); rotate_left; (with_reducible assumption)) | ((with_reducible apply Blk.turned); rotate_left; (with_reducible assumption); (focus (first | (simp; done) | (simp; omega) | omega))) | fail)); (· rfl))); omega; rintro e w6 ⟨rfl, t6, hr6⟩; have k0 := t6.cellEq w5.heap.size 0 (by simp) (by omega); have k1 := t6.cellEq w5.heap.size 1 (by simp) (by omega); have k2 := t6.cellEq w2.heap.size 0 (by simp; omega) (by omega); have k3 := t6.cellEq w2.heap.size 1 (by simp; omega) (by omega); have k4 := t6.frozenEq w2.heap.size 0 (by simp; omega) (by omega); have k5 := t6.frozenEq w2.heap.size 1 (by simp; omega) (by omega)))
          go_wp2_with fail
          go_meet
          exact ⟨(RNum cur err).2.1, (RNum cur err).2.2, rfl, by have := RNum_size cur err; omega, by unfold Rd at hr6 ⊢; (apply Blk.conv; (· (repeat' first | (with_reducible assumption) | (with_reducible apply Blk.setRow) | ((with_reducible apply Blk.farRow); rotate_left; (focus (first | (simp; done) | (simp; omega) | omega))) | (with_reducible apply Blk.drew) | (with_reducible apply Blk.drewN) | (with_reducible apply Blk.set_) | (with_reducible exact Blk.new _ _ _ (by first | rfl | (simp; done) | (simp; omega))) | (with_reducible apply Blk.alloc) | ((with_reducible apply Blk.far); rotate_left; (focus (first | (simp; done) | (simp; omega) | omega))) | ((with_reducible apply Blk.grew); rotate_left; (with_reducible assumption)) | ((with_reducible apply Blk.turned); rotate_left; (with_reducible assumption); (focus (first | (simp; done) | (simp; omega) | omega))) | fail)); (· rfl)), by (apply Blk.conv; (· (repeat' first | (with_reducible assumption) | (with_reducible apply Blk.setRow) | ((with_reducible apply Blk.farRow); rotate_left; (focus (first | (simp; done) | (simp; omega) | omega))) | (with_reducible apply Blk.drew) | (with_reducible apply Blk.drewN) | (with_reducible apply Blk.set_) | (with_reducible exact Blk.new _ _ _ (by first | rfl | (simp; done) | (simp; omega))) | (with_reducible apply Blk.alloc) | ((with_reducible apply Blk.far); rotate_left; (focus (first | (simp; done) | (simp; omega) | omega))) | ((with_reducible apply Blk.grew); rotate_left; (with_reducible assumption)) | ((with_reducible apply Blk.turned); rotate_left; (with_reducible assumption); (focus (first | (simp; done) | (simp; omega) | omega))) | fail)); (· rfl)), by (repeat' first | (with_reducible exact Grew.refl _) | (with_reducible assumption) | (with_reducible refine Grew.alloc ?_ _) | (with_reducible refine Grew.drew ?_) | (with_reducible refine Grew.drewN ?_ _) | (with_reducible refine Grew.setRow ?_ (by first | (simp; done) | (simp; omega) | omega) _) | (with_reducible refine Grew.setCell ?_ (by first | (simp; done) | (simp; omega) | omega) _) | ((with_reducible apply Grew.trans); rotate_left; (with_reducible assumption)) | ((with_reducible apply Grew.turn); rotate_left; (with_reducible assumption); (focus (intro i hi; first | omega | (simp at hi; omega)))) | fail)⟩
        · have e0 : ((kd : Int) % 5 == 0) = false := by first | exact beq_iff_eq.2 (by omega) | exact beq_eq_false_iff_ne.2 (by omega)
          have e1 : ((kd : Int) % 5 == 1) = true := by first | exact beq_iff_eq.2 (by omega) | exact beq_eq_false_iff_ne.2 (by omega)
          have e2 : ((kd : Int) % 5 == 2) = false := by first | exact beq_iff_eq.2 (by omega) | exact beq_eq_false_iff_ne.2 (by omega)
          have e3 : ((kd : Int) % 5 == 3) = false := by first | exact beq_iff_eq.2 (by omega) | exact beq_eq_false_iff_ne.2 (by omega)
          have e4 : ((kd : Int) % 5 == 4) = false := by first | exact beq_iff_eq.2 (by omega) | exact beq_eq_false_iff_ne.2 (by omega)
          clear h5
          go_wp2_with fail
          refine (refReadInt_any cur err _ (by omega)).mono ?_
          rintro e w5 ⟨rfl, g5⟩
          have hce := g5.cellEq
          have hfe := g5.frozenEq
          have hz5 : wr.heap.size < w5.heap.size := by have := g5.size; simp at this; omega
          have hz5' : wr.heap.size ≤ w5.heap.size := by omega
          have hnz : ¬ w5.heap.size = w2.heap.size := by omega
          have hnz' : ¬ w2.heap.size = w5.heap.size := by omega
          have hnw : ¬ wr.heap.size = w2.heap.size := by omega
          have hnw' : ¬ w2.heap.size = wr.heap.size := by omega
          have hg5 : g < w5.heap.size := by omega
          have hzx : w2.heap.size < w5.heap.size := by omega
          go_wp2_with fail
          go_region_held3 (fun w' => w'.cell? ⟨w5.heap.size, 0, none⟩ = some (.string (RNum cur err).2.1) ∧ w'.cell? ⟨w5.heap.size, 1, none⟩ = some (.int .i64 (RNum cur err).2.2)) (go_keep) (first | (go_at_call 27; refine (rint_any g cur err _ ?_ ?_).mono ?_; (unfold Rd at hrd ⊢; (apply Blk.conv; (· (repeat' first | (with_reducible assumption) | (with_reducible apply Blk.setRow) | ((with_reducible apply Blk.farRow); rotate_left; (focus (first | (simp; done) | (simp; omega) | omega))) | (with_reducible apply Blk.drew) | (with_reducible apply Blk.drewN) | (with_reducible apply Blk.set_) | (with_reducible exact Blk.new _ _ _ (by first | rfl | (simp; done) | (simp; omega))) | (with_reducible apply Blk.alloc) | ((with_reducible apply Blk.far); rotate_left; (focus (first | (simp; done) | (simp; omega) | omega))) | ((with_reducible apply Blk.grew); rotate_left; (with_reducible assumption)) | ((with_reducible apply Blk.turned); rotate_left; (with_reducible assumption); (focus (first | (simp; done) | (simp; omega) | omega))) | fail)); (· rfl))); omega; rintro e w6 ⟨rfl, t6, hr6⟩; have k0 := t6.cellEq w5.heap.size 0 (by simp) (by omega); have k1 := t6.cellEq w5.heap.size 1 (by simp) (by omega); have k2 := t6.cellEq w2.heap.size 0 (by simp; omega) (by omega); have k3 := t6.cellEq w2.heap.size 1 (by simp; omega) (by omega); have k4 := t6.frozenEq w2.heap.size 0 (by simp; omega) (by omega); have k5 := t6.frozenEq w2.heap.size 1 (by simp; omega) (by omega)))
          go_wp2_with fail
          go_meet
          exact ⟨(RNum cur err).2.1, (RNum cur err).2.2, rfl, by have := RNum_size cur err; omega, by unfold Rd at hr6 ⊢; (apply Blk.conv; (· (repeat' first | (with_reducible assumption) | (with_reducible apply Blk.setRow) | ((with_reducible apply Blk.farRow); rotate_left; (focus (first | (simp; done) | (simp; omega) | omega))) | (with_reducible apply Blk.drew) | (with_reducible apply Blk.drewN) | (with_reducible apply Blk.set_) | (with_reducible exact Blk.new _ _ _ (by first | rfl | (simp; done) | (simp; omega))) | (with_reducible apply Blk.alloc) | ((with_reducible apply Blk.far); rotate_left; (focus (first | (simp; done) | (simp; omega) | omega))) | ((with_reducible apply Blk.grew); rotate_left; (with_reducible assumption)) | ((with_reducible apply Blk.turned); rotate_left; (with_reducible assumption); (focus (first | (simp; done) | (simp; omega) | omega))) | fail)); (· rfl)), by (apply Blk.conv; (· (repeat' first | (with_reducible assumption) | (with_reducible apply Blk.setRow) | ((with_reducible apply Blk.farRow); rotate_left; (focus (first | (simp; done) | (simp; omega) | omega))) | (with_reducible apply Blk.drew) | (with_reducible apply Blk.drewN) | (with_reducible apply Blk.set_) | (with_reducible exact Blk.new _ _ _ (by first | rfl | (simp; done) | (simp; omega))) | (with_reducible apply Blk.alloc) | ((with_reducible apply Blk.far); rotate_left; (focus (first | (simp; done) | (simp; omega) | omega))) | ((with_reducible apply Blk.grew); rotate_left; (with_reducible assumption)) | ((with_reducible apply Blk.turned); rotate_left; (with_reducible assumption); (focus (first | (simp; done) | (simp; omega) | omega))) | fail)); (· rfl)), by (repeat' first | (with_reducible exact Grew.refl _) | (with_reducible assumption) | (with_reducible refine Grew.alloc ?_ _) | (with_reducible refine Grew.drew ?_) | (with_reducible refine Grew.drewN ?_ _) | (with_reducible refine Grew.setRow ?_ (by first | (simp; done) | (simp; omega) | omega) _) | (with_reducible refine Grew.setCell ?_ (by first | (simp; done) | (simp; omega) | omega) _) | ((with_reducible apply Grew.trans); rotate_left; (with_reducible assumption)) | ((with_reducible apply Grew.turn); rotate_left; (with_reducible assumption); (focus (intro i hi; first | omega | (simp at hi; omega)))) | fail)⟩
        · have e0 : ((kd : Int) % 5 == 0) = false := by first | exact beq_iff_eq.2 (by omega) | exact beq_eq_false_iff_ne.2 (by omega)
          have e1 : ((kd : Int) % 5 == 1) = false := by first | exact beq_iff_eq.2 (by omega) | exact beq_eq_false_iff_ne.2 (by omega)
          have e2 : ((kd : Int) % 5 == 2) = true := by first | exact beq_iff_eq.2 (by omega) | exact beq_eq_false_iff_ne.2 (by omega)
          have e3 : ((kd : Int) % 5 == 3) = false := by first | exact beq_iff_eq.2 (by omega) | exact beq_eq_false_iff_ne.2 (by omega)
          have e4 : ((kd : Int) % 5 == 4) = false := by first | exact beq_iff_eq.2 (by omega) | exact beq_eq_false_iff_ne.2 (by omega)
          clear h5
          go_wp2_with fail
          refine (refReadBool_any cur err _ (by omega)).mono ?_
          rintro e w5 ⟨rfl, g5⟩
          have hce := g5.cellEq
          have hfe := g5.frozenEq
          have hz5 : wr.heap.size < w5.heap.size := by have := g5.size; simp at this; omega
          have hz5' : wr.heap.size ≤ w5.heap.size := by omega
          have hnz : ¬ w5.heap.size = w2.heap.size := by omega
          have hnz' : ¬ w2.heap.size = w5.heap.size := by omega
          have hnw : ¬ wr.heap.size = w2.heap.size := by omega
          have hnw' : ¬ w2.heap.size = wr.heap.size := by omega
          have hg5 : g < w5.heap.size := by omega
          have hzx : w2.heap.size < w5.heap.size := by omega
          go_wp2_with fail
          go_region_held3 (fun w' => w'.cell? ⟨w5.heap.size, 0, none⟩ = some (.string (RBool cur err).2.1) ∧ w'.cell? ⟨w5.heap.size, 1, none⟩ = some (.int .i64 (RBool cur err).2.2)) (go_keep) (first | (go_at_call 29; refine (rbool_any g cur err _ ?_ ?_).mono ?_; (unfold Rd at hrd ⊢; (apply Blk.conv; (· (repeat' first | (with_reducible assumption) | (with_reducible apply Blk.setRow) | ((with_reducible apply Blk.farRow); rotate_left; (focus (first | (simp; done) | (simp; omega) | omega))) | (with_reducible apply Blk.drew) | (with_reducible apply Blk.drewN) | (with_reducible apply Blk.set_) | (with_reducible exact Blk.new _ _ _ (by first | rfl | (simp; done) | (simp; omega))) | (with_reducible apply Blk.alloc) | ((with_reducible apply Blk.far); rotate_left; (focus (first | (simp; done) | (simp; omega) | omega))) | ((with_reducible apply Blk.grew); rotate_left; (with_reducible assumption)) | ((with_reducible apply Blk.turned); rotate_left; (with_reducible assumption); (focus (first | (simp; done) | (simp; omega) | omega))) | fail)); (· rfl))); omega; rintro e w6 ⟨rfl, t6, hr6⟩; have k0 := t6.cellEq w5.heap.size 0 (by simp) (by omega); have k1 := t6.cellEq w5.heap.size 1 (by simp) (by omega); have k2 := t6.cellEq w2.heap.size 0 (by simp; omega) (by omega); have k3 := t6.cellEq w2.heap.size 1 (by simp; omega) (by omega); have k4 := t6.frozenEq w2.heap.size 0 (by simp; omega) (by omega); have k5 := t6.frozenEq w2.heap.size 1 (by simp; omega) (by omega)))
          go_wp2_with fail
          go_meet
          exact ⟨(RBool cur err).2.1, (RBool cur err).2.2, rfl, by have := RBool_size cur err; omega, by unfold Rd at hr6 ⊢; (apply Blk.conv; (· (repeat' first | (with_reducible assumption) | (with_reducible apply Blk.setRow) | ((with_reducible apply Blk.farRow); rotate_left; (focus (first | (simp; done) | (simp; omega) | omega))) | (with_reducible apply Blk.drew) | (with_reducible apply Blk.drewN) | (with_reducible apply Blk.set_) | (with_reducible exact Blk.new _ _ _ (by first | rfl | (simp; done) | (simp; omega))) | (with_reducible apply Blk.alloc) | ((with_reducible apply Blk.far); rotate_left; (focus (first | (simp; done) | (simp; omega) | omega))) | ((with_reducible apply Blk.grew); rotate_left; (with_reducible assumption)) | ((with_reducible apply Blk.turned); rotate_left; (with_reducible assumption); (focus (first | (simp; done) | (simp; omega) | omega))) | fail)); (· rfl)), by (apply Blk.conv; (· (repeat' first | (with_reducible assumption) | (with_reducible apply Blk.setRow) | ((with_reducible apply Blk.farRow); rotate_left; (focus (first | (simp; done) | (simp; omega) | omega))) | (with_reducible apply Blk.drew) | (with_reducible apply Blk.drewN) | (with_reducible apply Blk.set_) | (with_reducible exact Blk.new _ _ _ (by first | rfl | (simp; done) | (simp; omega))) | (with_reducible apply Blk.alloc) | ((with_reducible apply Blk.far); rotate_left; (focus (first | (simp; done) | (simp; omega) | omega))) | ((with_reducible apply Blk.grew); rotate_left; (with_reducible assumption)) | ((with_reducible apply Blk.turned); rotate_left; (with_reducible assumption); (focus (first | (simp; done) | (simp; omega) | omega))) | fail)); (· rfl)), by (repeat' first | (with_reducible exact Grew.refl _) | (with_reducible assumption) | (with_reducible refine Grew.alloc ?_ _) | (with_reducible refine Grew.drew ?_) | (with_reducible refine Grew.drewN ?_ _) | (with_reducible refine Grew.setRow ?_ (by first | (simp; done) | (simp; omega) | omega) _) | (with_reducible refine Grew.setCell ?_ (by first | (simp; done) | (simp; omega) | omega) _) | ((with_reducible apply Grew.trans); rotate_left; (with_reducible assumption)) | ((with_reducible apply Grew.turn); rotate_left; (with_reducible assumption); (focus (intro i hi; first | omega | (simp at hi; omega)))) | fail)⟩
        · have e0 : ((kd : Int) % 5 == 0) = false := by first | exact beq_iff_eq.2 (by omega) | exact beq_eq_false_iff_ne.2 (by omega)
          have e1 : ((kd : Int) % 5 == 1) = false := by first | exact beq_iff_eq.2 (by omega) | exact beq_eq_false_iff_ne.2 (by omega)
          have e2 : ((kd : Int) % 5 == 2) = false := by first | exact beq_iff_eq.2 (by omega) | exact beq_eq_false_iff_ne.2 (by omega)
          have e3 : ((kd : Int) % 5 == 3) = true := by first | exact beq_iff_eq.2 (by omega) | exact beq_eq_false_iff_ne.2 (by omega)
          have e4 : ((kd : Int) % 5 == 4) = false := by first | exact beq_iff_eq.2 (by omega) | exact beq_eq_false_iff_ne.2 (by omega)
          clear h5
          go_wp2_with fail
          refine (refReadText_any cur err most _ (by omega) hm0 hm1).mono ?_
          rintro e w5 ⟨rfl, g5⟩
          have hce := g5.cellEq
          have hfe := g5.frozenEq
          have hz5 : wr.heap.size < w5.heap.size := by have := g5.size; simp at this; omega
          have hz5' : wr.heap.size ≤ w5.heap.size := by omega
          have hnz : ¬ w5.heap.size = w2.heap.size := by omega
          have hnz' : ¬ w2.heap.size = w5.heap.size := by omega
          have hnw : ¬ wr.heap.size = w2.heap.size := by omega
          have hnw' : ¬ w2.heap.size = wr.heap.size := by omega
          have hg5 : g < w5.heap.size := by omega
          have hzx : w2.heap.size < w5.heap.size := by omega
          go_wp2_with fail
          go_region_held3 (fun w' => w'.cell? ⟨w5.heap.size, 0, none⟩ = some (.string (RTxt cur err most).2.1) ∧ w'.cell? ⟨w5.heap.size, 1, none⟩ = some (.int .i64 (RTxt cur err most).2.2) ∧ w'.cell? ⟨wr.heap.size, 1, none⟩ = some (.int .i64 most)) (go_keep) (first | (go_at_call 22; refine (rtext_any g cur err most _ ?_ ?_ hm0 hm1).mono ?_; (unfold Rd at hrd ⊢; (apply Blk.conv; (· (repeat' first | (with_reducible assumption) | (with_reducible apply Blk.setRow) | ((with_reducible apply Blk.farRow); rotate_left; (focus (first | (simp; done) | (simp; omega) | omega))) | (with_reducible apply Blk.drew) | (with_reducible apply Blk.drewN) | (with_reducible apply Blk.set_) | (with_reducible exact Blk.new _ _ _ (by first | rfl | (simp; done) | (simp; omega))) | (with_reducible apply Blk.alloc) | ((with_reducible apply Blk.far); rotate_left; (focus (first | (simp; done) | (simp; omega) | omega))) | ((with_reducible apply Blk.grew); rotate_left; (with_reducible assumption)) | ((with_reducible apply Blk.turned); rotate_left; (with_reducible assumption); (focus (first | (simp; done) | (simp; omega) | omega))) | fail)); (· rfl))); omega; rintro e w6 ⟨rfl, t6, hr6⟩; have k0 := t6.cellEq w5.heap.size 0 (by simp) (by omega); have k1 := t6.cellEq w5.heap.size 1 (by simp) (by omega); have k2 := t6.cellEq w2.heap.size 0 (by simp; omega) (by omega); have k3 := t6.cellEq w2.heap.size 1 (by simp; omega) (by omega); have k4 := t6.frozenEq w2.heap.size 0 (by simp; omega) (by omega); have k5 := t6.frozenEq w2.heap.size 1 (by simp; omega) (by omega); have k6 := t6.cellEq wr.heap.size 1 (by simp; omega) (by omega)))
          go_wp2_with fail
          go_meet
          exact ⟨(RTxt cur err most).2.1, (RTxt cur err most).2.2, rfl, by have := RTxt_size cur err most; omega, by unfold Rd at hr6 ⊢; (apply Blk.conv; (· (repeat' first | (with_reducible assumption) | (with_reducible apply Blk.setRow) | ((with_reducible apply Blk.farRow); rotate_left; (focus (first | (simp; done) | (simp; omega) | omega))) | (with_reducible apply Blk.drew) | (with_reducible apply Blk.drewN) | (with_reducible apply Blk.set_) | (with_reducible exact Blk.new _ _ _ (by first | rfl | (simp; done) | (simp; omega))) | (with_reducible apply Blk.alloc) | ((with_reducible apply Blk.far); rotate_left; (focus (first | (simp; done) | (simp; omega) | omega))) | ((with_reducible apply Blk.grew); rotate_left; (with_reducible assumption)) | ((with_reducible apply Blk.turned); rotate_left; (with_reducible assumption); (focus (first | (simp; done) | (simp; omega) | omega))) | fail)); (· rfl)), by (apply Blk.conv; (· (repeat' first | (with_reducible assumption) | (with_reducible apply Blk.setRow) | ((with_reducible apply Blk.farRow); rotate_left; (focus (first | (simp; done) | (simp; omega) | omega))) | (with_reducible apply Blk.drew) | (with_reducible apply Blk.drewN) | (with_reducible apply Blk.set_) | (with_reducible exact Blk.new _ _ _ (by first | rfl | (simp; done) | (simp; omega))) | (with_reducible apply Blk.alloc) | ((with_reducible apply Blk.far); rotate_left; (focus (first | (simp; done) | (simp; omega) | omega))) | ((with_reducible apply Blk.grew); rotate_left; (with_reducible assumption)) | ((with_reducible apply Blk.turned); rotate_left; (with_reducible assumption); (focus (first | (simp; done) | (simp; omega) | omega))) | fail)); (· rfl)), by (repeat' first | (with_reducible exact Grew.refl _) | (with_reducible assumption) | (with_reducible refine Grew.alloc ?_ _) | (with_reducible refine Grew.drew ?_) | (with_reducible refine Grew.drewN ?_ _) | (with_reducible refine Grew.setRow ?_ (by first | (simp; done) | (simp; omega) | omega) _) | (with_reducible refine Grew.setCell ?_ (by first | (simp; done) | (simp; omega) | omega) _) | ((with_reducible apply Grew.trans); rotate_left; (with_reducible assumption)) | ((with_reducible apply Grew.turn); rotate_left; (with_reducible assumption); (focus (intro i hi; first | omega | (simp at hi; omega)))) | fail)⟩
        · have e0 : ((kd : Int) % 5 == 0) = false := by first | exact beq_iff_eq.2 (by omega) | exact beq_eq_false_iff_ne.2 (by omega)
          have e1 : ((kd : Int) % 5 == 1) = false := by first | exact beq_iff_eq.2 (by omega) | exact beq_eq_false_iff_ne.2 (by omega)
          have e2 : ((kd : Int) % 5 == 2) = false := by first | exact beq_iff_eq.2 (by omega) | exact beq_eq_false_iff_ne.2 (by omega)
          have e3 : ((kd : Int) % 5 == 3) = false := by first | exact beq_iff_eq.2 (by omega) | exact beq_eq_false_iff_ne.2 (by omega)
          have e4 : ((kd : Int) % 5 == 4) = true := by first | exact beq_iff_eq.2 (by omega) | exact beq_eq_false_iff_ne.2 (by omega)
          clear h5
          go_wp2_with fail
          refine (refReadCount_any cur err most _ (by omega) hm0 hm1).mono ?_
          rintro e w5 ⟨rfl, g5⟩
          have hce := g5.cellEq
          have hfe := g5.frozenEq
          have hz5 : wr.heap.size < w5.heap.size := by have := g5.size; simp at this; omega
          have hz5' : wr.heap.size ≤ w5.heap.size := by omega
          have hnz : ¬ w5.heap.size = w2.heap.size := by omega
          have hnz' : ¬ w2.heap.size = w5.heap.size := by omega
          have hnw : ¬ wr.heap.size = w2.heap.size := by omega
          have hnw' : ¬ w2.heap.size = wr.heap.size := by omega
          have hg5 : g < w5.heap.size := by omega
          have hzx : w2.heap.size < w5.heap.size := by omega
          go_wp2_with fail
          go_region_held3 (fun w' => w'.cell? ⟨w5.heap.size, 0, none⟩ = some (.string (RCnt cur err most).2.1) ∧ w'.cell? ⟨w5.heap.size, 1, none⟩ = some (.int .i64 (RCnt cur err most).2.2) ∧ w'.cell? ⟨wr.heap.size, 1, none⟩ = some (.int .i64 most)) (go_keep) (first | (go_at_call 21; refine (rcount_any g cur err most _ ?_ ?_ hm0 hm1).mono ?_; (unfold Rd at hrd ⊢; (apply Blk.conv; (· (repeat' first | (with_reducible assumption) | (with_reducible apply Blk.setRow) | ((with_reducible apply Blk.farRow); rotate_left; (focus (first | (simp; done) | (simp; omega) | omega))) | (with_reducible apply Blk.drew) | (with_reducible apply Blk.drewN) | (with_reducible apply Blk.set_) | (with_reducible exact Blk.new _ _ _ (by first | rfl | (simp; done) | (simp; omega))) | (with_reducible apply Blk.alloc) | ((with_reducible apply Blk.far); rotate_left; (focus (first | (simp; done) | (simp; omega) | omega))) | ((with_reducible apply Blk.grew); rotate_left; (with_reducible assumption)) | ((with_reducible apply Blk.turned); rotate_left; (with_reducible assumption); (focus (first | (simp; done) | (simp; omega) | omega))) | fail)); (· rfl))); omega; rintro e w6 ⟨rfl, t6, hr6⟩; have k0 := t6.cellEq w5.heap.size 0 (by simp) (by omega); have k1 := t6.cellEq w5.heap.size 1 (by simp) (by omega); have k2 := t6.cellEq w2.heap.size 0 (by simp; omega) (by omega); have k3 := t6.cellEq w2.heap.size 1 (by simp; omega) (by omega); have k4 := t6.frozenEq w2.heap.size 0 (by simp; omega) (by omega); have k5 := t6.frozenEq w2.heap.size 1 (by simp; omega) (by omega); have k6 := t6.cellEq wr.heap.size 1 (by simp; omega) (by omega)))
          go_wp2_with fail
          go_meet
          exact ⟨(RCnt cur err most).2.1, (RCnt cur err most).2.2, rfl, by have := RCnt_size cur err most; omega, by unfold Rd at hr6 ⊢; (apply Blk.conv; (· (repeat' first | (with_reducible assumption) | (with_reducible apply Blk.setRow) | ((with_reducible apply Blk.farRow); rotate_left; (focus (first | (simp; done) | (simp; omega) | omega))) | (with_reducible apply Blk.drew) | (with_reducible apply Blk.drewN) | (with_reducible apply Blk.set_) | (with_reducible exact Blk.new _ _ _ (by first | rfl | (simp; done) | (simp; omega))) | (with_reducible apply Blk.alloc) | ((with_reducible apply Blk.far); rotate_left; (focus (first | (simp; done) | (simp; omega) | omega))) | ((with_reducible apply Blk.grew); rotate_left; (with_reducible assumption)) | ((with_reducible apply Blk.turned); rotate_left; (with_reducible assumption); (focus (first | (simp; done) | (simp; omega) | omega))) | fail)); (· rfl)), by (apply Blk.conv; (· (repeat' first | (with_reducible assumption) | (with_reducible apply Blk.setRow) | ((with_reducible apply Blk.farRow); rotate_left; (focus (first | (simp; done) | (simp; omega) | omega))) | (with_reducible apply Blk.drew) | (with_reducible apply Blk.drewN) | (with_reducible apply Blk.set_) | (with_reducible exact Blk.new _ _ _ (by first | rfl | (simp; done) | (simp; omega))) | (with_reducible apply Blk.alloc) | ((with_reducible apply Blk.far); rotate_left; (focus (first | (simp; done) | (simp; omega) | omega))) | ((with_reducible apply Blk.grew); rotate_left; (with_reducible assumption)) | ((with_reducible apply Blk.turned); rotate_left; (with_reducible assumption); (focus (first | (simp; done) | (simp; omega) | omega))) | fail)); (· rfl)), by (repeat' first | (with_reducible exact Grew.refl _) | (with_reducible assumption) | (with_reducible refine Grew.alloc ?_ _) | (with_reducible refine Grew.drew ?_) | (with_reducible refine Grew.drewN ?_ _) | (with_reducible refine Grew.setRow ?_ (by first | (simp; done) | (simp; omega) | omega) _) | (with_reducible refine Grew.setCell ?_ (by first | (simp; done) | (simp; omega) | omega) _) | ((with_reducible apply Grew.trans); rotate_left; (with_reducible assumption)) | ((with_reducible apply Grew.turn); rotate_left; (with_reducible assumption); (focus (intro i hi; first | omega | (simp at hi; omega)))) | fail)⟩
      case rest =>
        obtain ⟨cur', err', rfl, hcs', hr', hb', hg'⟩ := hcut
        clear hrd r0 r1 rf0 rf1 x0 x1 xf0 xf1 hbx
        obtain ⟨hgl, r0, r1, rf0, rf1⟩ := hr'.facts
        have hxl := hb'.lt
        have x0 := hb'.cell 0
        have x1 := hb'.cell 1
        go_wp2_with fail
        go_region_held3 (fun w' => w'.cell? ⟨w2.heap.size, 0, none⟩ = some (.string cur') ∧ w'.cell? ⟨w2.heap.size, 1, none⟩ = some (.int .i64 err')) (go_keep) (first | (go_at_call 32; refine (rleft_any g cur' err' _ ?_ ?_).mono ?_; exact hr'; omega; rintro e w6 ⟨rfl, rfl⟩) | (go_at_call 33; refine (rrest_any g cur' err' _ ?_).mono ?_; exact hr'; rintro e w6 ⟨rfl, rfl⟩) | (go_at_call 23; refine (rend_same g cur' err' _ ?_).mono ?_; exact hr'; rintro e w6 ⟨rfl, rfl⟩) | (go_at_call 34; refine (refEnd_any cur' err' _ ?_).mono ?_; omega; rintro e w6 ⟨rfl, g6⟩; have k0 := g6.cellEq w2.heap.size 0 (by simpa using hxl); have k1 := g6.cellEq w2.heap.size 1 (by simpa using hxl)))
        go_wp2_with fail
        go_roundg (l.length - (k + 1))
        case measure => rw [HGK.out]; omega
        case rel => exact ⟨k + 1, cur', err', by omega, by omega, by go_num, hcs', by unfold Rd at hr' ⊢; (apply Blk.conv; (· (repeat' first | (with_reducible assumption) | (with_reducible apply Blk.setRow) | ((with_reducible apply Blk.farRow); rotate_left; (focus (first | (simp; done) | (simp; omega) | omega))) | (with_reducible apply Blk.drew) | (with_reducible apply Blk.drewN) | (with_reducible apply Blk.set_) | (with_reducible exact Blk.new _ _ _ (by first | rfl | (simp; done) | (simp; omega))) | (with_reducible apply Blk.alloc) | ((with_reducible apply Blk.far); rotate_left; (focus (first | (simp; done) | (simp; omega) | omega))) | ((with_reducible apply Blk.grew); rotate_left; (with_reducible assumption)) | ((with_reducible apply Blk.turned); rotate_left; (with_reducible assumption); (focus (first | (simp; done) | (simp; omega) | omega))) | fail)); (· rfl)), by (apply Blk.conv; (· (repeat' first | (with_reducible assumption) | (with_reducible apply Blk.setRow) | ((with_reducible apply Blk.farRow); rotate_left; (focus (first | (simp; done) | (simp; omega) | omega))) | (with_reducible apply Blk.drew) | (with_reducible apply Blk.drewN) | (with_reducible apply Blk.set_) | (with_reducible exact Blk.new _ _ _ (by first | rfl | (simp; done) | (simp; omega))) | (with_reducible apply Blk.alloc) | ((with_reducible apply Blk.far); rotate_left; (focus (first | (simp; done) | (simp; omega) | omega))) | ((with_reducible apply Blk.grew); rotate_left; (with_reducible assumption)) | ((with_reducible apply Blk.turned); rotate_left; (with_reducible assumption); (focus (first | (simp; done) | (simp; omega) | omega))) | fail)); (· rfl)), by (repeat' first | (with_reducible exact Grew.refl _) | (with_reducible assumption) | (with_reducible refine Grew.alloc ?_ _) | (with_reducible refine Grew.drew ?_) | (with_reducible refine Grew.drewN ?_ _) | (with_reducible refine Grew.setRow ?_ (by first | (simp; done) | (simp; omega) | omega) _) | (with_reducible refine Grew.setCell ?_ (by first | (simp; done) | (simp; omega) | omega) _) | ((with_reducible apply Grew.trans); rotate_left; (with_reducible assumption)) | ((with_reducible apply Grew.turn); rotate_left; (with_reducible assumption); (focus (intro i hi; first | omega | (simp at hi; omega)))) | fail)⟩
    · go_wp2_with fail
      go_ret
      exact ⟨rfl, hgr⟩
set_option maxRecDepth 100000 in
set_option maxHeartbeats 2000000 in
theorem wireReads_far (s : ByteArray) (A : Option Addr) (c n : Nat) (w : World) (hs : s.size ≤ 9223372036854775807) (hn : n ≤ 9223372036854775807) (hb : 500 < s.size ∨ 30 < n) :
    Calls Try.prog 7 #[.string s, .slice A n c] w fun e w' => e = .returned (.bool true) ∧ Grew w w' := by
  by_cases h : 500 < s.size
  all_goals
    have h2 : 500 < s.size ∨ 30 < (n : Int) := by omega
    clear hb
    go_enter Try.func7, Try.ntmps7
    go_wp2_with fail
    refine (awake_any w).mono ?_
    rintro e w1 ⟨rfl, g1⟩
    go_wp2_with fail
    refine (awake_any w1).mono ?_
    rintro e w2 ⟨rfl, g2⟩
    go_wp2_with fail
    go_ret
    exact ⟨rfl, g1.trans g2⟩
theorem wireReads_any (s : ByteArray) (A : Option Addr) (c : Nat) (l : List (Nat × Int)) (w : World) (hs : s.size ≤ 9223372036854775807) (hl : l.length ≤ 9223372036854775807) (hops : OpsAt w w.heap.size A l) :
    Calls Try.prog 7 #[.string s, .slice A l.length c] w fun e w' => e = .returned (.bool true) ∧ Grew w w' := by
  by_cases h : 500 < s.size ∨ 30 < l.length
  · exact wireReads_far s A c l.length w hs hl h
  · exact wireReads_core s A c l w (by omega) (by omega) hops
end Go.Proofs.Ytfoklokflooapaa
