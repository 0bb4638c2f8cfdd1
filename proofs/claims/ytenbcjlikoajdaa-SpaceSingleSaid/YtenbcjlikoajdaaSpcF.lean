/- Chapter 6: the reference's Allocate. -/
import Derived.Test.YtenbcjlikoajdaaSpcE
namespace Go.Proofs.Ytenbcjlikoajdaa
set_option linter.unusedVariables false
set_option linter.unusedSimpArgs false
set_option linter.unusedSectionVars false
open Go.RowKit
section
variable (A : Option Addr) (c : Nat) (l : List (Int × Int)) (w : World) (B : Nat) (hB : B ≤ w.heap.size) (hl : l.length ≤ 1000000) (hr : RunsAt w B A l) (n : Int) (n0 : -9223372036854775808 ≤ n) (n1 : n ≤ 9223372036854775807) (most : Int)
include hB hl hr n0 n1
set_option maxRecDepth 100000 in
set_option maxHeartbeats 4000000 in
theorem ralloc_any : Calls Try.prog 15 #[.slice A l.length c, .int .i64 n, .int .i64 most] w (AllocR w (allocS (memS l) n most)) := by
  by_cases h1 : n < 1
  · have HE := Lib.hid (show allocS (memS l) n most = ([], 1) from by unfold allocS; rw [if_pos (.inl h1)])
    go_enter Try.func15, Try.ntmps15
    go_wp2_with fail
    go_returns
    rw [HE.out]
    exact ⟨_, rfl, OwnL.nil _ _ _ _, by (repeat' first | (with_reducible exact Grew.refl _) | (with_reducible assumption) | (with_reducible refine Grew.alloc ?_ _) | (with_reducible refine Grew.drew ?_) | (with_reducible refine Grew.drewN ?_ _) | (with_reducible refine Grew.setRow ?_ (by first | (simp; done) | (simp; omega) | omega) _) | (with_reducible refine Grew.setCell ?_ (by first | (simp; done) | (simp; omega) | omega) _) | ((with_reducible apply Grew.trans); rotate_left; (with_reducible assumption)) | ((with_reducible apply Grew.turn); rotate_left; (with_reducible assumption); (focus (intro i hi; first | omega | (simp at hi; omega)))) | fail)⟩
  by_cases h2 : most < 1
  · have HE := Lib.hid (show allocS (memS l) n most = ([], 1) from by unfold allocS; rw [if_pos (.inr h2)])
    go_enter Try.func15, Try.ntmps15
    go_wp2_with fail
    go_returns
    rw [HE.out]
    exact ⟨_, rfl, OwnL.nil _ _ _ _, by (repeat' first | (with_reducible exact Grew.refl _) | (with_reducible assumption) | (with_reducible refine Grew.alloc ?_ _) | (with_reducible refine Grew.drew ?_) | (with_reducible refine Grew.drewN ?_ _) | (with_reducible refine Grew.setRow ?_ (by first | (simp; done) | (simp; omega) | omega) _) | (with_reducible refine Grew.setCell ?_ (by first | (simp; done) | (simp; omega) | omega) _) | ((with_reducible apply Grew.trans); rotate_left; (with_reducible assumption)) | ((with_reducible apply Grew.turn); rotate_left; (with_reducible assumption); (focus (intro i hi; first | omega | (simp at hi; omega)))) | fail)⟩
  obtain ⟨nn, rfl⟩ : ∃ nn : Nat, n = (nn : Int) := ⟨n.toNat, by omega⟩
  have HS := Lib.hid (show allocS (memS l) (nn : Int) most = if (bestF (nn : Int) (normS (memS l))).2 ≠ 0 then ([((bestF (nn : Int) (normS (memS l))).1, nn)], 0) else if nn - cntL (sortS (normS (memS l))) ≠ 0 ∨ most < ((takeR (sortS (normS (memS l))) nn).length : Int) then ([], 14) else (takeR (sortS (normS (memS l))) nn, 0) from by unfold allocS; rw [if_neg (fun h => h.elim h1 h2)]; rfl)
  have hB0 := rbest_any A c l w B hB hl hr (nn : Int) n0 n1
  have hbb : bestS (memS l) (nn : Int) = if (bestF (nn : Int) (normS (memS l))).2 = 0 then ((0, 0), false) else ((((bestF (nn : Int) (normS (memS l))).1 : Int), (nn : Int)), true) := by
    unfold bestS
    by_cases hz : (bestF (nn : Int) (normS (memS l))).2 = 0
    · rw [if_pos (.inr hz), if_pos hz]
    · rw [if_neg (fun h => h.elim h1 hz), if_neg hz]
  rw [hbb] at hB0
  have hbd := normS_bd (memS l)
  have hfb := bestF_bd (nn : Int) (normS (memS l)) 128 hbd
  have hfm := bestF_mem (nn : Int) (normS (memS l))
  by_cases hz : (bestF (nn : Int) (normS (memS l))).2 = 0
  rotate_left
  · rw [if_neg hz] at hB0
    have hnl : nn ≤ 128 := by
      rcases hfm with h | ⟨_, h⟩
      · rw [h] at hz; exact absurd rfl hz
      · omega
    have HE := Lib.hid (show allocS (memS l) (nn : Int) most = ([((bestF (nn : Int) (normS (memS l))).1, nn)], 0) from by rw [HS.out, if_pos hz])
    generalize bestF (nn : Int) (normS (memS l)) = bb at *
    obtain ⟨bf, bc⟩ := bb
    simp only at hB0 HE hfb
    have HB0 := Lib.hid hB0
    clear hbb hB0 HS hz hfm
    go_enter Try.func15, Try.ntmps15
    go_wp2_with fail
    refine HB0.out.mono ?_
    rintro e w1 ⟨rfl, g1⟩
    have hws := g1.size
    go_wp2_with fail
    go_returns
    rw [HE.out]
    refine ⟨_, rfl, OwnL.one (r := (bf, nn)) ?_ ?_, by (repeat' first | (with_reducible exact Grew.refl _) | (with_reducible assumption) | (with_reducible refine Grew.alloc ?_ _) | (with_reducible refine Grew.drew ?_) | (with_reducible refine Grew.drewN ?_ _) | (with_reducible refine Grew.setRow ?_ (by first | (simp; done) | (simp; omega) | omega) _) | (with_reducible refine Grew.setCell ?_ (by first | (simp; done) | (simp; omega) | omega) _) | ((with_reducible apply Grew.trans); rotate_left; (with_reducible assumption)) | ((with_reducible apply Grew.turn); rotate_left; (with_reducible assumption); (focus (intro i hi; first | omega | (simp at hi; omega)))) | fail)⟩
    · simp; omega
    · simp
  rw [if_pos hz] at hB0
  have HS2 := Lib.hid (show allocS (memS l) (nn : Int) most = if nn - cntL (sortS (normS (memS l))) ≠ 0 ∨ most < ((takeR (sortS (normS (memS l))) nn).length : Int) then ([], 14) else (takeR (sortS (normS (memS l))) nn, 0) from by rw [HS.out, if_neg (fun h => h hz)])
  have HB0 := Lib.hid hB0
  have HC := Lib.hid (fun w' (g : Grew w w') => rsorted_any A c l w' B (Nat.le_trans hB g.size) hl (hr.keep hB g))
  have hml : (sortS (normS (memS l))).length ≤ 128 := by rw [← (sortS_perm _ (normS_cnt (memS l)) (normS_asc (memS l))).length_eq]; exact normS_len _
  have hmb : ∀ r ∈ sortS (normS (memS l)), r.1 + r.2 ≤ 128 := fun r hr => hbd r ((mem_sortS _ (normS_cnt (memS l)) r).1 hr)
  generalize sortS (normS (memS l)) = M at *
  have HMB := Lib.hid hmb
  clear hbb hB0 HS hz hfm hfb hr hbd hmb
  go_enter Try.func15, Try.ntmps15
  go_wp2_with fail
  refine HB0.out.mono ?_
  rintro e w1 ⟨rfl, g1⟩
  have hws := g1.size
  go_wp2_with fail
  refine (HC.out _ (by (repeat' first | (with_reducible exact Grew.refl _) | (with_reducible assumption) | (with_reducible refine Grew.alloc ?_ _) | (with_reducible refine Grew.drew ?_) | (with_reducible refine Grew.drewN ?_ _) | (with_reducible refine Grew.setRow ?_ (by first | (simp; done) | (simp; omega) | omega) _) | (with_reducible refine Grew.setCell ?_ (by first | (simp; done) | (simp; omega) | omega) _) | ((with_reducible apply Grew.trans); rotate_left; (with_reducible assumption)) | ((with_reducible apply Grew.turn); rotate_left; (with_reducible assumption); (focus (intro i hi; first | omega | (simp at hi; omega)))) | fail))).mono ?_
  rintro e w2 ⟨v, rfl, hown, g2⟩
  have hG : Grew w w2 := by (repeat' first | (with_reducible exact Grew.refl _) | (with_reducible assumption) | (with_reducible refine Grew.alloc ?_ _) | (with_reducible refine Grew.drew ?_) | (with_reducible refine Grew.drewN ?_ _) | (with_reducible refine Grew.setRow ?_ (by first | (simp; done) | (simp; omega) | omega) _) | (with_reducible refine Grew.setCell ?_ (by first | (simp; done) | (simp; omega) | omega) _) | ((with_reducible apply Grew.trans); rotate_left; (with_reducible assumption)) | ((with_reducible apply Grew.turn); rotate_left; (with_reducible assumption); (focus (intro i hi; first | omega | (simp at hi; omega)))) | fail)
  obtain ⟨A', c', hv, hr3, _, _, _⟩ := own_runs2 hown (fun r hr => Nat.le_trans (HMB.out r hr) (by omega))
  subst hv
  have HR := Lib.hid hr3
  have hgs := hG.size
  obtain ⟨w3, hw3⟩ : ∃ w3, w3 = w2 := ⟨_, rfl⟩
  subst hw3
  clear hown HC HB0 g1 g2 hr3
  go_wp2_with fail
  go_loopg [1, 11, 12] M.length (fun gk nv ov i wr => ∃ k : Nat, k ≤ M.length ∧ gk = M.length - k ∧ i = .int .i64 k ∧ nv = .int .i64 ((nn - cntL (M.take k) : Nat) : Int) ∧ OwnL wr w3.heap.size 25 2 ov ((takeR (M.take k) nn).map rowN) ∧ Grew w3 wr)
  case atStart => exact ⟨0, by omega, by omega, rfl, by simp [cntL], OwnL.empty _ _ _ _ (Nat.le_refl _) rfl, by (repeat' first | (with_reducible exact Grew.refl _) | (with_reducible assumption) | (with_reducible refine Grew.alloc ?_ _) | (with_reducible refine Grew.drew ?_) | (with_reducible refine Grew.drewN ?_ _) | (with_reducible refine Grew.setRow ?_ (by first | (simp; done) | (simp; omega) | omega) _) | (with_reducible refine Grew.setCell ?_ (by first | (simp; done) | (simp; omega) | omega) _) | ((with_reducible apply Grew.trans); rotate_left; (with_reducible assumption)) | ((with_reducible apply Grew.turn); rotate_left; (with_reducible assumption); (focus (intro i hi; first | omega | (simp at hi; omega)))) | fail)⟩
  case round =>
    obtain ⟨k, hk, hgk, rfl, rfl, hown, hg⟩ := hrel
    have HGK := Lib.hid hgk
    clear hgk
    have htl := takeR_len (M.take k) nn
    have htk : (M.take k).length ≤ 128 := Nat.le_trans (List.length_take_le _ _) (by omega)
    have hws3 := hg.size
    obtain ⟨Av, cv, hv, hcv1, hcv2, -⟩ := hown.listAt
    rw [List.length_map] at hv hcv1
    subst hv
    by_cases hlt : k < M.length
    · obtain ⟨b, off, rfl, hb, x0, x1⟩ := runs_nat (HR.out.keep (Nat.le_refl _) hg) hlt
      have hbs : b < wr.heap.size := by omega
      have hrb := HMB.out _ (List.getElem_mem hlt)
      have HST := Lib.hid (takeR_snoc M k nn hlt)
      have HCN := Lib.hid (cntL_snoc M k hlt)
      have HTT := Lib.hid (fun h => takeR_stop (M.drop k) (M.take k) nn h)
      generalize M[k] = r at *
      obtain ⟨rf, rc⟩ := r
      simp only at x0 x1 hrb
      obtain ⟨m, hm⟩ : ∃ m, nn - cntL (M.take k) = m := ⟨_, rfl⟩
      rw [hm] at HST
      rw [hm]
      by_cases hm0 : m = 0
      · have HTT2 := HTT.out (by omega)
        rw [List.take_append_drop] at HTT2
        have hz0 : nn - cntL M = 0 := by
          have h9 := cntL_append (M.take k) (M.drop k)
          rw [List.take_append_drop] at h9
          omega
        rw [← HTT2] at hown htl
        have hownx := hown
        have hgx := hg
        have hb0 : ((m : Int) == 0) = true := beq_iff_eq.2 (by omega)
        rw [← HTT2]
        subst hm0
        clear HTT2 hm
        by_cases hl2 : most < ((takeR M nn).length : Int)
        · have HE := Lib.hid (show allocS (memS l) (nn : Int) most = ([], 14) from by rw [HS2.out]; exact if_pos (.inr hl2))
          go_wp2_with fail
          go_returns
          rw [HE.out]
          exact ⟨_, rfl, OwnL.nil _ _ _ _, hG.trans hgx⟩
        · have HE := Lib.hid (show allocS (memS l) (nn : Int) most = (takeR M nn, 0) from by rw [HS2.out]; exact if_neg (fun h => h.elim (fun h => h hz0) hl2))
          go_wp2_with fail
          go_returns
          rw [HE.out]
          exact ⟨_, rfl, hownx.mono hgs, hG.trans hgx⟩
      · have hb0 : ((m : Int) == 0) = false := beq_eq_false_iff_ne.2 (by omega)
        have HSN := Lib.hid (HST.out.trans (by rw [if_neg hm0]))
        obtain ⟨q, hq⟩ : ∃ q, min rc m = q := ⟨_, rfl⟩
        have hqi : min (rc : Int) (m : Int) = (q : Int) := by omega
        have hqm : q ≤ m := by omega
        have hqr : q ≤ rc := by omega
        have hmn : m ≤ nn := by omega
        have hmp : 0 < m := by omega
        rw [hq] at HSN
        have hown2 := hown.alloc (.cells #[.int .i64 (rf : Int), .int .i64 (q : Int)] 25)
        have hg2 := hg.alloc (.cells #[.int .i64 (rf : Int), .int .i64 (q : Int)] 25)
        have hnext : nn - cntL (M.take (k + 1)) = m - q := by rw [HCN.out]; show nn - (cntL (M.take k) + rc) = _; omega
        have HNX := Lib.hid hnext
        clear hnext hm0 hm HTT HCN hq
        go_wp2_with (at_builtin; (try rw [hqi]); refine wpList_push rfl _ _ 22 rfl w3.heap.size 25 2 16 _ Try.underlying22 info_run rfl (by decide) (wr.alloc (.cells #[.int .i64 (rf : Int), .int .i64 (q : Int)] 25)) _ ((takeR (M.take k) nn).map rowN) (rowN (rf, q)) (by rfl) rfl rfl hown2 (by first | rfl | (simp; done)) rfl rfl (by rw [List.length_map]; omega) (by rw [List.length_map]; omega) hg2.size ?_; intro v' w5 hown3 hgr hbk hsz)
        go_roundg (M.length - (k + 1))
        case measure => rw [HGK.out]; omega
        case rel => exact ⟨k + 1, by omega, by omega, by go_num, by rw [HNX.out]; go_num, by rw [HSN.out, List.map_append]; exact hown3, hgr _ hg2 (Nat.le_refl _)⟩
    · obtain rfl : k = M.length := by omega
      rw [List.take_length] at hown htl ⊢
      have hownx := hown
      have hgx := hg
      by_cases hz0 : nn - cntL M = 0
      · rw [hz0]
        by_cases hl2 : most < ((takeR M nn).length : Int)
        · have HE := Lib.hid (show allocS (memS l) (nn : Int) most = ([], 14) from by rw [HS2.out]; exact if_pos (.inr hl2))
          go_wp2_with fail
          go_returns
          rw [HE.out]
          exact ⟨_, rfl, OwnL.nil _ _ _ _, hG.trans hgx⟩
        · have HE := Lib.hid (show allocS (memS l) (nn : Int) most = (takeR M nn, 0) from by rw [HS2.out]; exact if_neg (fun h => h.elim (fun h => h hz0) hl2))
          go_wp2_with fail
          go_returns
          rw [HE.out]
          exact ⟨_, rfl, hownx.mono hgs, hG.trans hgx⟩
      · have HE := Lib.hid (show allocS (memS l) (nn : Int) most = ([], 14) from by rw [HS2.out]; exact if_pos (.inl hz0))
        generalize nn - cntL M = m at *
        have hm1 : 0 < m := by omega
        go_wp2_with fail
        go_returns
        rw [HE.out]
        exact ⟨_, rfl, OwnL.nil _ _ _ _, hG.trans hgx⟩
end
end Go.Proofs.Ytenbcjlikoajdaa
