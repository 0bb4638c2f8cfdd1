/- The reference's Join. -/
import Derived.Test.YtenbcjlikoajdaaExtP
namespace Go.Proofs.Ytenbcjlikoajdaa
set_option linter.unusedVariables false
set_option linter.unusedSimpArgs false
set_option linter.unusedSectionVars false
open Go.RowKit
set_option maxRecDepth 100000 in
set_option maxHeartbeats 8000000 in
theorem refjoin_any (A : Option Addr) (c : Nat) (l : List (Int × Int)) (w : World) (B : Nat) (hB : B ≤ w.heap.size) (hl : l.length ≤ 1000000) (hr : RunsAt w B A l) :
    Calls Try.prog 45 #[.slice A l.length c] w fun e w' => ∃ v, e = .returned v ∧ OwnL w' w.heap.size 25 2 v ((joinS l).map rowN) ∧ Grew w w' := by
  have HR := Lib.hid hr
  clear hr
  go_enter Try.func45, Try.ntmps45
  go_wp2_with fail
  go_loopg [3, 4] l.length (fun gk v i wr => ∃ (k : Nat) (v' : Value), v' = v ∧ k ≤ l.length ∧ gk = l.length - k ∧ i = .int .i64 k ∧ OwnL wr w.heap.size 25 2 v ((joinS (l.take k)).map rowN) ∧ Grew w wr)
  case atStart => exact ⟨0, _, rfl, by omega, by omega, rfl, OwnL.empty w _ _ _ (Nat.le_refl _) rfl, by (repeat' first | (with_reducible exact Grew.refl _) | (with_reducible assumption) | (with_reducible refine Grew.alloc ?_ _) | (with_reducible refine Grew.drew ?_) | (with_reducible refine Grew.drewN ?_ _) | (with_reducible refine Grew.setRow ?_ (by first | (simp; done) | (simp; omega) | omega) _) | (with_reducible refine Grew.setCell ?_ (by first | (simp; done) | (simp; omega) | omega) _) | ((with_reducible apply Grew.trans); rotate_left; (with_reducible assumption)) | ((with_reducible apply Grew.turn); rotate_left; (with_reducible assumption); (focus (intro i hi; first | omega | (simp at hi; omega)))) | fail)⟩
  case round =>
    obtain ⟨k, v, rfl, hk, hgk, rfl, hown, hg⟩ := hrel
    have HGK := Lib.hid hgk
    clear hgk
    by_cases hlt : k < l.length
    · obtain ⟨b, off, f, c, rfl, hb, hlk, ⟨f0, f1, c0, c1⟩, x0, x1⟩ := (HR.out.keep hB hg).at_ hlt
      simp only at f0 f1 c0 c1
      have hbs : b < wr.heap.size := by have := hg.size; omega
      have hws := hg.size
      have hle := clipS_le (f, c)
      have hsn := joinS_snoc l k hlt
      rw [hlk] at hsn
      have HN := Lib.hid hsn
      have hjl := joinS_len (l.take k)
      have hjl2 : (l.take k).length ≤ 1000000 := Nat.le_trans (List.length_take_le _ _) (by omega)
      have HJ := Lib.hid (joinS_bd (l.take k))
      clear hlk hsn
      have HC := fun W => Lib.hid (refclip_any f c W f0 f1 c0 c1)
      generalize clipS (f, c) = r at *
      obtain ⟨lo, n⟩ := r
      generalize joinS (l.take k) = acc at *
      simp only at hle
      obtain ⟨Av, cv, hv, hcv1, hcv2, -⟩ := hown.listAt
      rw [List.length_map] at hv hcv1
      subst hv
      have hal : acc.length ≤ 1000000 := by omega
      rcases last_cases acc with rfl | ⟨ini, x, rfl⟩
      · go_wp2_with fail
        refine (HC _).out.mono ?_
        rintro e w1 ⟨rfl, g1⟩
        have hg1 := hg.trans g1
        have hown1 := hown.grew g1
        have hz1 := g1.size
        have hz2 := hg1.size
        clear g1 hg
        by_cases hn : n = 0
        · have hb0 : ((n : Int) == 0) = true := beq_iff_eq.2 (by omega)
          have HF := Lib.hid (HN.out.trans (by rw [stepJ, if_pos (by simp [hn])]))
          clear hn
          go_wp2_with fail
          go_roundg (l.length - (k + 1))
          case measure => rw [HGK.out]; omega
          case rel => exact ⟨k + 1, _, rfl, by omega, by omega, by go_num, by rw [HF.out]; exact hown1.alloc _, by (repeat' first | (with_reducible exact Grew.refl _) | (with_reducible assumption) | (with_reducible refine Grew.alloc ?_ _) | (with_reducible refine Grew.drew ?_) | (with_reducible refine Grew.drewN ?_ _) | (with_reducible refine Grew.setRow ?_ (by first | (simp; done) | (simp; omega) | omega) _) | (with_reducible refine Grew.setCell ?_ (by first | (simp; done) | (simp; omega) | omega) _) | ((with_reducible apply Grew.trans); rotate_left; (with_reducible assumption)) | ((with_reducible apply Grew.turn); rotate_left; (with_reducible assumption); (focus (intro i hi; first | omega | (simp at hi; omega)))) | fail)⟩
        · have hb0 : ((n : Int) == 0) = false := beq_eq_false_iff_ne.2 (by omega)
          have HF := Lib.hid (HN.out.trans (show stepJ [] (lo, n) = [] ++ [(lo, n)] by rw [stepJ, if_neg (by simpa using hn), if_neg (fun h => h.1 rfl)]))
          clear hn
          go_wp2_with fail
          go_quiet (fail)
          go_wp2_with (at_builtin; refine wpList_push rfl _ _ 22 rfl w.heap.size 25 2 16 _ Try.underlying22 info_run rfl (by decide) _ _ (([] : List (Nat × Nat)).map rowN) (rowN (lo, n)) (by rfl) rfl rfl ((hown1.alloc _).drewN nq) (by first | rfl | (simp; done)) rfl rfl (by simp) (by simp) (by simp; omega) ?_; intro v' w3 hown3 hgr hbk hsz)
          go_roundg (l.length - (k + 1))
          case measure => rw [HGK.out]; omega
          case rel => exact ⟨k + 1, _, rfl, by omega, by omega, by go_num, by rw [HF.out, List.map_append]; exact hown3, hgr _ (by (repeat' first | (with_reducible exact Grew.refl _) | (with_reducible assumption) | (with_reducible refine Grew.alloc ?_ _) | (with_reducible refine Grew.drew ?_) | (with_reducible refine Grew.drewN ?_ _) | (with_reducible refine Grew.setRow ?_ (by first | (simp; done) | (simp; omega) | omega) _) | (with_reducible refine Grew.setCell ?_ (by first | (simp; done) | (simp; omega) | omega) _) | ((with_reducible apply Grew.trans); rotate_left; (with_reducible assumption)) | ((with_reducible apply Grew.turn); rotate_left; (with_reducible assumption); (focus (intro i hi; first | omega | (simp at hi; omega)))) | fail)) (Nat.le_refl _)⟩
      · have hstep := fun h : n ≠ 0 => stepJ_snoc ini x (lo, n) h
        have hin := HJ.out x (by simp)
        obtain ⟨la, lb⟩ := x
        simp only at hin hstep
        have HL := Lib.hid (show (ini ++ [(la, lb)]).length = ini.length + 1 from by simp)
        have hlen : ini.length ≤ 1000000 := by rw [HL.out] at hal; omega
        rw [HL.out] at hown hal hcv1 ⊢
        have HROW := Lib.hid (show ((ini ++ [(la, lb)]).map rowN)[ini.length]? = some (rowN (la, lb)) from by simp)
        have HSET := Lib.hid (show ((ini ++ [(la, lb)]).map rowN).set ini.length ((rowN (la, lb)).set 1 (.int .i64 ((lb + n : Nat) : Int))) = (ini ++ [(la, lb + n)]).map rowN from by rw [rows_set', List.set_append_right _ _ (by simp)]; simp)
        generalize hp : ini.length = p at *
        have HP := Lib.hid hp
        clear hp
        rcases hown.form with ⟨h0, _⟩ | ⟨gv, cap, hv, hbg, hgv, _, _⟩
        · exfalso; injection h0; omega
        · injection hv with hv1 hv2 hv3
          subst hv1
          clear hv2 hv3
          go_wp2_with fail
          refine (HC _).out.mono ?_
          rintro e w1 ⟨rfl, g1⟩
          have hg1 := hg.trans g1
          have hown1 := (hown.grew g1).alloc (.cells #[.int .i64 (lo : Int), .int .i64 (n : Int)] 25)
          have hz1 := g1.size
          have hz2 := hg1.size
          have hgw : gv < w1.heap.size := by omega
          clear g1 hg hown
          by_cases hn : n = 0
          · have hb0 : ((n : Int) == 0) = true := beq_iff_eq.2 (by omega)
            have HF := Lib.hid (HN.out.trans (by rw [stepJ, if_pos (by simp [hn])]))
            clear hn
            go_wp2_with fail
            go_roundg (l.length - (k + 1))
            case measure => rw [HGK.out]; omega
            case rel => exact ⟨k + 1, _, rfl, by omega, by omega, by go_num, by rw [HF.out]; exact hown1, by (repeat' first | (with_reducible exact Grew.refl _) | (with_reducible assumption) | (with_reducible refine Grew.alloc ?_ _) | (with_reducible refine Grew.drew ?_) | (with_reducible refine Grew.drewN ?_ _) | (with_reducible refine Grew.setRow ?_ (by first | (simp; done) | (simp; omega) | omega) _) | (with_reducible refine Grew.setCell ?_ (by first | (simp; done) | (simp; omega) | omega) _) | ((with_reducible apply Grew.trans); rotate_left; (with_reducible assumption)) | ((with_reducible apply Grew.turn); rotate_left; (with_reducible assumption); (focus (intro i hi; first | omega | (simp at hi; omega)))) | fail)⟩
          · have hb0 : ((n : Int) == 0) = false := beq_eq_false_iff_ne.2 (by omega)
            have hst := hstep hn
            have d0 := hown1.cell (i := 0) HROW.out rfl
            have d1 := hown1.cell (i := 1) HROW.out rfl
            have df := hown1.frozen (p * 2 + 1)
            rw [Nat.add_zero] at d0
            have hset := hown1.set_ (i := 1) (o := p * 2 + 1) HROW.out (by omega) rfl (.int .i64 ((lb + n : Nat) : Int))
            rw [HSET.out] at hset
            have HS := Lib.hid hset
            clear hset hn hstep
            have hdq : decide ((0 : Int) < (p : Int) + 1) = true := by rw [decide_eq_true_eq]; omega
            have hgne : ¬ gv = w1.heap.size := by omega
            have hgne' : ¬ w1.heap.size = gv := by omega
            by_cases hj : la + lb = lo
            · have HF := Lib.hid (HN.out.trans (hst.trans (if_pos hj)))
              have hbj : (((la : Int) + (lb : Int)) == (lo : Int)) = true := beq_iff_eq.2 (by omega)
              clear hst hj
              go_wp2_with fail
              go_quiet (fail)
              go_wp2_with fail
              go_region
              go_wp2_with fail
              go_roundg (l.length - (k + 1))
              case measure => rw [HGK.out]; omega
              case rel => exact ⟨k + 1, _, rfl, by omega, by omega, by go_num, by rw [HF.out]; exact HS.out, by (repeat' first | (with_reducible exact Grew.refl _) | (with_reducible assumption) | (with_reducible refine Grew.alloc ?_ _) | (with_reducible refine Grew.drew ?_) | (with_reducible refine Grew.drewN ?_ _) | (with_reducible refine Grew.setRow ?_ (by first | (simp; done) | (simp; omega) | omega) _) | (with_reducible refine Grew.setCell ?_ (by first | (simp; done) | (simp; omega) | omega) _) | ((with_reducible apply Grew.trans); rotate_left; (with_reducible assumption)) | ((with_reducible apply Grew.turn); rotate_left; (with_reducible assumption); (focus (intro i hi; first | omega | (simp at hi; omega)))) | fail)⟩
            · have HF := Lib.hid (HN.out.trans (hst.trans (if_neg hj)))
              have hbj : (((la : Int) + (lb : Int)) == (lo : Int)) = false := beq_eq_false_iff_ne.2 (by omega)
              clear hst hj
              go_wp2_with fail
              go_quiet (fail)
              go_wp2_with (at_builtin; refine wpList_push rfl _ _ 22 rfl w.heap.size 25 2 16 _ Try.underlying22 info_run rfl (by decide) _ _ ((ini ++ [(la, lb)]).map rowN) (rowN (lo, n)) (by rfl) rfl rfl (hown1.drewN nq) (by first | rfl | (simp; done)) rfl rfl (by rw [List.length_map, HL.out]; omega) (by rw [List.length_map, HL.out]; omega) (by simp; omega) ?_; intro v' w3 hown3 hgr hbk hsz)
              go_roundg (l.length - (k + 1))
              case measure => rw [HGK.out]; omega
              case rel => exact ⟨k + 1, _, rfl, by omega, by omega, by go_num, by rw [HF.out, List.map_append]; exact hown3, hgr _ (by (repeat' first | (with_reducible exact Grew.refl _) | (with_reducible assumption) | (with_reducible refine Grew.alloc ?_ _) | (with_reducible refine Grew.drew ?_) | (with_reducible refine Grew.drewN ?_ _) | (with_reducible refine Grew.setRow ?_ (by first | (simp; done) | (simp; omega) | omega) _) | (with_reducible refine Grew.setCell ?_ (by first | (simp; done) | (simp; omega) | omega) _) | ((with_reducible apply Grew.trans); rotate_left; (with_reducible assumption)) | ((with_reducible apply Grew.turn); rotate_left; (with_reducible assumption); (focus (intro i hi; first | omega | (simp at hi; omega)))) | fail)) (Nat.le_refl _)⟩
    · obtain rfl : k = l.length := by omega
      rw [List.take_length] at hown
      go_wp2_with fail
      go_ret
      exact ⟨_, rfl, hown, hg⟩
end Go.Proofs.Ytenbcjlikoajdaa
