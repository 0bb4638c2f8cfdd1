/- The reference's set. -/
import Derived.Test.YtenbcjlikoajdaaExtG
namespace Go.Proofs.Ytenbcjlikoajdaa
set_option linter.unusedVariables false
set_option linter.unusedSimpArgs false
set_option linter.unusedSectionVars false
open Go.RowKit
def boolC (b : Bool) : List Value := [.bool b]
def hasS (l : List Bool) (i : Nat) : Bool := l.getD i false
theorem hasS_at (l : List Bool) (i : Nat) (h : i < l.length) : hasS l i = l[i] := by simp [hasS, List.getD, h]
set_option maxRecDepth 100000 in
set_option maxHeartbeats 4000000 in
theorem refset_any (A : Option Addr) (c : Nat) (l : List Bool) (w : World) (B : Nat) (hB : B ≤ w.heap.size) (hl : l.length ≤ 1000000) (hr : ListAt w B 1 A (l.map boolC)) :
    Calls Try.prog 61 #[.slice A l.length c] w fun e w' => ∃ v, e = .returned v ∧ OwnL w' w.heap.size 25 2 v ((normTo (hasS l) l.length).map rowN) ∧ Grew w w' := by
  have HR := Lib.hid hr
  clear hr
  go_enter Try.func61, Try.ntmps61
  go_wp2_with fail
  go_loopg [3, 4] l.length (fun gk v i wr => ∃ k : Nat, k ≤ l.length ∧ gk = l.length - k ∧ i = .int .i64 k ∧ OwnL wr w.heap.size 25 2 v ((normTo (hasS l) k).map rowN) ∧ Grew w wr)
  case atStart => exact ⟨0, by omega, by omega, rfl, OwnL.empty w _ _ _ (Nat.le_refl _) rfl, by (repeat' first | (with_reducible exact Grew.refl _) | (with_reducible assumption) | (with_reducible refine Grew.alloc ?_ _) | (with_reducible refine Grew.drew ?_) | (with_reducible refine Grew.drewN ?_ _) | (with_reducible refine Grew.setRow ?_ (by first | (simp; done) | (simp; omega) | omega) _) | (with_reducible refine Grew.setCell ?_ (by first | (simp; done) | (simp; omega) | omega) _) | ((with_reducible apply Grew.trans); rotate_left; (with_reducible assumption)) | ((with_reducible apply Grew.turn); rotate_left; (with_reducible assumption); (focus (intro i hi; first | omega | (simp at hi; omega)))) | fail)⟩
  case round =>
    obtain ⟨k, hk, hgk, rfl, hown, hg⟩ := hrel
    have HGK := Lib.hid hgk
    clear hgk
    by_cases hlt : k < l.length
    · obtain ⟨b, off, rfl, hb, hcells⟩ := (HR.out.keep hB hg) (by simp; omega)
      have hbs : b < wr.heap.size := by have := hg.size; omega
      have c0 := hcells k (boolC l[k]) (by rw [List.getElem?_map, List.getElem?_eq_getElem hlt]; rfl) 0 _ rfl
      rw [Nat.mul_one, Nat.add_zero, ← hasS_at l k hlt] at c0
      have hx : 0 < k → wr.cell? ⟨b, off + (k - 1), none⟩ = some (.bool (hasS l (k - 1))) := fun h => by
        have c1 := hcells (k - 1) (boolC l[k - 1]) (by rw [List.getElem?_map, List.getElem?_eq_getElem (by omega)]; rfl) 0 _ rfl
        rwa [Nat.mul_one, Nat.add_zero, ← hasS_at l (k - 1) (by omega)] at c1
      clear hcells
      have hstep : normTo (hasS l) (k + 1) = stepN (hasS l) (normTo (hasS l) k) k := rfl
      have hlen := normTo_len (hasS l) k
      have hbd := normTo_bd (hasS l) k
      have hppos := normTo_pos (hasS l) k
      by_cases hS : hasS l k = true
      · rw [stepN, if_neg (by simp [hS])] at hstep
        rw [hS] at c0
        by_cases hp : 0 < k ∧ hasS l (k - 1) = true
        · rw [if_pos hp] at hstep
          have c1 := hx hp.1
          rw [hp.2] at c1
          have hpos := hppos hp.1 hp.2
          have HS := Lib.hid hstep
          have HB := Lib.hid hbd
          have hk0 := hp.1
          clear hstep hbd hS hp hx hppos
          rcases hown.form with ⟨_, h0⟩ | ⟨gv, cap, hv, hbg, hgv, hc1, hc2⟩
          · exfalso; have := congrArg List.length h0; simp at this; simp [this] at hpos
          · subst hv
            have hlast : (normTo (hasS l) k)[(normTo (hasS l) k).length - 1]? = some ((normTo (hasS l) k).getD ((normTo (hasS l) k).length - 1) (0, 0)) := by
              rw [getD_at _ _ (by omega)]; exact List.getElem?_eq_getElem (by omega)
            have hin := HB.out _ (List.mem_of_getElem? hlast)
            generalize hld : (normTo (hasS l) k).getD ((normTo (hasS l) k).length - 1) (0, 0) = ld at *
            obtain ⟨la, lb⟩ := ld
            have hrow : ((normTo (hasS l) k).map rowN)[(normTo (hasS l) k).length - 1]? = some (rowN (la, lb)) := by rw [List.getElem?_map, hlast]; rfl
            have d1 := hown.cell (i := 1) hrow rfl
            have d0 := hown.frozen (((normTo (hasS l) k).length - 1) * 2 + 1)
            rw [List.length_map] at *
            have hsetown := hown.set_ (i := 1) (o := ((normTo (hasS l) k).length - 1) * 2 + 1) hrow (by omega) rfl (.int .i64 ((lb + 1 : Nat) : Int))
            rw [rows_set _ _ la lb (lb + 1) hlast] at hsetown
            have HN := Lib.hid hsetown
            have HL := Lib.hid hld
            simp only at hin
            clear hsetown hld hlast hrow
            generalize hq : (normTo (hasS l) k).length = q at *
            have hq1 : ((q : Int) - 1) = ((q - 1 : Nat) : Int) := by omega
            go_wp2_with fail
            go_roundg (l.length - (k + 1))
            case measure => rw [HGK.out]; omega
            case rel => exact ⟨k + 1, by omega, by omega, by go_num, by rw [HS.out, bump, hq, HL.out]; exact HN.out, by (repeat' first | (with_reducible exact Grew.refl _) | (with_reducible assumption) | (with_reducible refine Grew.alloc ?_ _) | (with_reducible refine Grew.drew ?_) | (with_reducible refine Grew.drewN ?_ _) | (with_reducible refine Grew.setRow ?_ (by first | (simp; done) | (simp; omega) | omega) _) | (with_reducible refine Grew.setCell ?_ (by first | (simp; done) | (simp; omega) | omega) _) | ((with_reducible apply Grew.trans); rotate_left; (with_reducible assumption)) | ((with_reducible apply Grew.turn); rotate_left; (with_reducible assumption); (focus (intro i hi; first | omega | (simp at hi; omega)))) | fail)⟩
        · rw [if_neg hp] at hstep
          have HS := Lib.hid hstep
          by_cases hk0 : k = 0
          · subst hk0
            rw [Nat.add_zero] at c0
            clear hstep hbd hS hp hx hppos
            go_wp2_with (at_builtin; refine wpList_push rfl _ _ 22 rfl w.heap.size 25 2 16 _ Try.underlying22 info_run rfl (by decide) wr _ ((normTo (hasS l) 0).map rowN) (rowN (0, 1)) (by rfl) rfl rfl hown (by first | rfl | (simp; done)) rfl rfl (by rw [List.length_map]; omega) (by rw [List.length_map]; omega) hg.size ?_; intro v' w1 hown1 hgr hbk hsz)
            go_roundg (l.length - (0 + 1))
            case measure => rw [HGK.out]; omega
            case rel => exact ⟨0 + 1, by omega, by omega, by go_num, by rw [HS.out, List.map_append]; exact hown1, hgr _ hg (Nat.le_refl _)⟩
          · have hS0 : hasS l (k - 1) = false := by
              cases h2 : hasS l (k - 1) with
              | false => rfl
              | true => exact absurd ⟨by omega, h2⟩ hp
            have c1 := hx (by omega)
            rw [hS0] at c1
            clear hstep hbd hS hp hx hS0 hppos
            go_wp2_with (at_builtin; refine wpList_push rfl _ _ 22 rfl w.heap.size 25 2 16 _ Try.underlying22 info_run rfl (by decide) wr _ ((normTo (hasS l) k).map rowN) (rowN (k, 1)) (by rfl) rfl rfl hown (by first | rfl | (simp; done)) rfl rfl (by rw [List.length_map]; omega) (by rw [List.length_map]; omega) hg.size ?_; intro v' w1 hown1 hgr hbk hsz)
            go_roundg (l.length - (k + 1))
            case measure => rw [HGK.out]; omega
            case rel => exact ⟨k + 1, by omega, by omega, by go_num, by rw [HS.out, List.map_append]; exact hown1, hgr _ hg (Nat.le_refl _)⟩
      · have hS' : hasS l k = false := by simpa using hS
        rw [stepN, if_pos hS'] at hstep
        rw [hS'] at c0
        have HS := Lib.hid hstep
        clear hstep hbd hS hS' hx hppos
        go_wp2_with fail
        go_roundg (l.length - (k + 1))
        case measure => rw [HGK.out]; omega
        case rel => exact ⟨k + 1, by omega, by omega, by go_num, by rw [HS.out]; exact hown, by (repeat' first | (with_reducible exact Grew.refl _) | (with_reducible assumption) | (with_reducible refine Grew.alloc ?_ _) | (with_reducible refine Grew.drew ?_) | (with_reducible refine Grew.drewN ?_ _) | (with_reducible refine Grew.setRow ?_ (by first | (simp; done) | (simp; omega) | omega) _) | (with_reducible refine Grew.setCell ?_ (by first | (simp; done) | (simp; omega) | omega) _) | ((with_reducible apply Grew.trans); rotate_left; (with_reducible assumption)) | ((with_reducible apply Grew.turn); rotate_left; (with_reducible assumption); (focus (intro i hi; first | omega | (simp at hi; omega)))) | fail)⟩
    · obtain rfl : k = l.length := by omega
      go_wp2_with fail
      go_ret
      exact ⟨_, rfl, hown, hg⟩
end Go.Proofs.Ytenbcjlikoajdaa
