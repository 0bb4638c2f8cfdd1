/- Chapter 6: the reference's sorted. -/
import Derived.Test.YtenbcjlikoajdaaSpcD
namespace Go.Proofs.Ytenbcjlikoajdaa
set_option linter.unusedVariables false
set_option linter.unusedSimpArgs false
set_option linter.unusedSectionVars false
open Go.RowKit
def sortTo (l : List (Nat × Nat)) (j : Nat) : List (Nat × Nat) := (List.range j).flatMap fun i => l.filter fun r => r.2 == 128 - i
theorem sortTo_succ (l : List (Nat × Nat)) (j : Nat) : sortTo l (j + 1) = sortTo l j ++ l.filter fun r => r.2 == 128 - j := by
  unfold sortTo; rw [List.range_succ, List.flatMap_append]; simp
theorem sortTo_len (l : List (Nat × Nat)) (j : Nat) : (sortTo l j).length ≤ l.length * j := by
  induction j with
  | zero => exact Nat.zero_le _
  | succ j ih =>
    rw [sortTo_succ, List.length_append, Nat.mul_succ]
    have := List.length_filter_le (fun r : Nat × Nat => r.2 == 128 - j) l
    omega
set_option maxRecDepth 100000 in
set_option maxHeartbeats 4000000 in
theorem rsorted_any (A : Option Addr) (c : Nat) (l : List (Int × Int)) (w : World) (B : Nat) (hB : B ≤ w.heap.size) (hl : l.length ≤ 1000000) (hr : RunsAt w B A l) :
    Calls Try.prog 44 #[.slice A l.length c] w fun e w' => ∃ v, e = .returned v ∧ OwnL w' w.heap.size 25 2 v ((sortS (normS (memS l))).map rowN) ∧ Grew w w' := by
  have HC := Lib.hid (refnormal_any A c l w B hB hl hr)
  have hbd := normS_bd (memS l)
  have hNl := normS_len (memS l)
  have HSS := Lib.hid (show sortS (normS (memS l)) = sortTo (normS (memS l)) 128 from rfl)
  generalize normS (memS l) = N at *
  have HBD := Lib.hid hbd
  clear hr hbd
  go_enter Try.func44, Try.ntmps44
  go_wp2_with fail
  refine HC.out.mono ?_
  rintro e w1 ⟨v, rfl, hown, hG⟩
  obtain ⟨A', c', hv, hr', _, _, hA'⟩ := own_runs2 hown (fun r hr => Nat.le_trans (HBD.out r hr) (by omega))
  subst hv
  have HR := Lib.hid hr'
  have hgs := hG.size
  clear hown hr' HC hA'
  go_wp2_with fail
  go_loopg [4, 5] 128 (fun gk ov nv wr => ∃ j : Nat, j ≤ 128 ∧ gk = 128 - j ∧ nv = .int .i64 ((128 - j : Nat) : Int) ∧ OwnL wr w1.heap.size 25 2 ov ((sortTo N j).map rowN) ∧ Grew w1 wr)
  case atStart => exact ⟨0, by omega, by omega, rfl, OwnL.empty _ _ _ _ (Nat.le_refl _) rfl, by (repeat' first | (with_reducible exact Grew.refl _) | (with_reducible assumption) | (with_reducible refine Grew.alloc ?_ _) | (with_reducible refine Grew.drew ?_) | (with_reducible refine Grew.drewN ?_ _) | (with_reducible refine Grew.setRow ?_ (by first | (simp; done) | (simp; omega) | omega) _) | (with_reducible refine Grew.setCell ?_ (by first | (simp; done) | (simp; omega) | omega) _) | ((with_reducible apply Grew.trans); rotate_left; (with_reducible assumption)) | ((with_reducible apply Grew.turn); rotate_left; (with_reducible assumption); (focus (intro i hi; first | omega | (simp at hi; omega)))) | fail)⟩
  case round =>
    obtain ⟨j, hj, hgk, rfl, hown, hg⟩ := hrel
    have HGK := Lib.hid hgk
    clear hgk
    have hsl := sortTo_len N j
    have hsl2 : N.length * j ≤ 128 * 128 := Nat.mul_le_mul hNl hj
    by_cases hlt : j < 128
    · obtain ⟨m, hm⟩ : ∃ m, 128 - j = m := ⟨_, rfl⟩
      have hm1 : 1 ≤ m := by omega
      have hm2 : m ≤ 128 := by omega
      have hdm : decide (1 ≤ (m : Int)) = true := decide_eq_true (by omega)
      have hdm2 : decide ((m : Int) ≥ 1) = true := decide_eq_true (by omega)
      rw [hm]
      have HM := Lib.hid hm
      have HSU := Lib.hid (show sortTo N (j + 1) = sortTo N j ++ N.filter fun r => r.2 == m from by rw [sortTo_succ, hm])
      generalize sortTo N j = out at *
      clear hm
      go_wp2_with fail
      go_loopg [4, 6] N.length (fun gk2 ov i wr2 => ∃ k : Nat, k ≤ N.length ∧ gk2 = N.length - k ∧ i = .int .i64 (k : Int) ∧ OwnL wr2 w1.heap.size 25 2 ov ((out ++ (N.take k).filter fun r => r.2 == m).map rowN) ∧ Grew w1 wr2)
      case atStart => exact ⟨0, by omega, by omega, rfl, by simpa using hown, hg⟩
      case round =>
        obtain ⟨k, hk, hgk2, rfl, hown2, hg2⟩ := hrel
        have HGK2 := Lib.hid hgk2
        clear hgk2
        have hfl := List.length_filter_le (fun r : Nat × Nat => r.2 == m) (N.take k)
        have htk : (N.take k).length ≤ 128 := Nat.le_trans (List.length_take_le _ _) (by omega)
        have hws := hg2.size
        by_cases hlt2 : k < N.length
        · obtain ⟨b, off, rfl, hb, x0, x1⟩ := runs_nat (HR.out.keep (Nat.le_refl _) hg2) hlt2
          have hbs : b < wr.heap.size := by omega
          have hrb := HBD.out _ (List.getElem_mem hlt2)
          have HFS := Lib.hid (show (N.take (k + 1)).filter (fun r => r.2 == m) = (N.take k).filter (fun r => r.2 == m) ++ (if N[k].2 == m then [N[k]] else []) from by
            rw [List.take_succ_eq_append_getElem hlt2, List.filter_append]
            congr 1
            simp only [List.filter_cons, List.filter_nil])
          generalize N[k] = r at *
          obtain ⟨rf, rc⟩ := r
          simp only at x0 x1 hrb
          generalize (N.take k).filter (fun r => r.2 == m) = flt at *
          obtain ⟨Av, cv, hv, hcv1, hcv2, -⟩ := hown2.listAt
          rw [List.length_map, List.length_append] at hv hcv1
          subst hv
          by_cases he : rc = m
          · have heb : ((rc : Int) == (m : Int)) = true := beq_iff_eq.2 (by omega)
            have HF2 := Lib.hid (HFS.out.trans (by rw [if_pos (beq_iff_eq.2 he)]))
            clear he HFS
            go_wp2_with (at_builtin; refine wpList_push rfl _ _ 22 rfl w1.heap.size 25 2 16 _ Try.underlying22 info_run rfl (by decide) wr _ ((out ++ flt).map rowN) (rowN (rf, rc)) (by rfl) rfl rfl hown2 (by first | rfl | (simp; done)) rfl rfl (by rw [List.length_map, List.length_append]; omega) (by rw [List.length_map, List.length_append]; omega) hg2.size ?_; intro v' w5 hown3 hgr hbk hsz)
            go_roundg (N.length - (k + 1))
            case measure => rw [HGK2.out]; omega
            case rel => exact ⟨k + 1, by omega, by omega, by go_num, by rw [HF2.out, ← List.append_assoc, List.map_append]; exact hown3, hgr _ hg2 (Nat.le_refl _)⟩
          · have heb : ((rc : Int) == (m : Int)) = false := beq_eq_false_iff_ne.2 (by omega)
            have HF2 := Lib.hid (HFS.out.trans (by rw [if_neg (by rw [beq_iff_eq]; exact he), List.append_nil]))
            clear he HFS
            go_wp2_with fail
            go_roundg (N.length - (k + 1))
            case measure => rw [HGK2.out]; omega
            case rel => exact ⟨k + 1, by omega, by omega, by go_num, by rw [HF2.out]; exact hown2, hg2⟩
        · obtain rfl : k = N.length := by omega
          rw [List.take_length] at hown2
          rw [← HSU.out] at hown2
          go_wp2_with fail
          go_roundg (128 - (j + 1))
          case measure => rw [HGK.out]; omega
          case rel => exact ⟨j + 1, by omega, by omega, by have := HM.out; go_num, hown2, hg2⟩
    · obtain rfl : j = 128 := by omega
      go_wp2_with fail
      go_ret
      refine ⟨_, rfl, ?_, hG.trans hg⟩
      rw [HSS.out]
      exact hown.mono hgs
end Go.Proofs.Ytenbcjlikoajdaa
