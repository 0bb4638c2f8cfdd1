/- The reference's Set and Normal. -/
import Derived.Test.YtenbcjlikoajdaaExtI
namespace Go.Proofs.Ytenbcjlikoajdaa
set_option linter.unusedVariables false
set_option linter.unusedSimpArgs false
set_option linter.unusedSectionVars false
open Go.RowKit
theorem normTo_congr {S T : Nat → Bool} : ∀ k, (∀ i, i < k → S i = T i) → normTo S k = normTo T k := by
  intro k
  induction k with
  | zero => intro _; rfl
  | succ k ih =>
    intro h
    rw [normTo, normTo, ih (fun i hi => h i (by omega)), stepN, stepN, h k (by omega)]
    by_cases hk : 0 < k
    · rw [h (k - 1) (by omega)]
    · have e1 : ¬ (0 < k ∧ S (k - 1) = true) := fun h => hk h.1
      have e2 : ¬ (0 < k ∧ T (k - 1) = true) := fun h => hk h.1
      rw [if_neg e1, if_neg e2]
theorem info_bool : (Try.prog.info? 4).map (fun i => (i.zero, i.size, i.bytes)) = some (some (.bool false), 1, 1) := by kernel_rfl
theorem hasS_range (F : Nat → Bool) (n i : Nat) (h : i < n) : hasS ((List.range n).map F) i = F i := by
  rw [hasS_at _ _ (by simpa using h)]; simp
set_option maxRecDepth 100000 in
set_option maxHeartbeats 8000000 in
theorem set_all (A1 A2 : Option Addr) (c1 c2 : Nat) (l1 l2 : List (Int × Int)) (w : World) (B : Nat) (hB : B ≤ w.heap.size) (hl1 : l1.length ≤ 1000000) (hl2 : l2.length ≤ 1000000) (hr1 : RunsAt w B A1 l1) (hr2 : RunsAt w B A2 l2) :
    Calls Try.prog 56 #[.slice A1 l1.length c1, .slice A2 l2.length c2, .bool true, .bool true, .bool true] w fun e w' => ∃ v, e = .returned v ∧ OwnL w' w.heap.size 25 2 v ((normS fun i => memS l1 i || memS l2 i).map rowN) ∧ Grew w w' := by
  have HR1 := Lib.hid hr1
  have HR2 := Lib.hid hr2
  clear hr1 hr2
  go_enter Try.func56, Try.ntmps56
  go_wp2_with fail
  go_loopg [11, 12] 128 (fun gk v i wr => ∃ k : Nat, k ≤ 128 ∧ gk = 128 - k ∧ i = .int .i64 k ∧ OwnL wr w.heap.size 4 1 v (((List.range k).map fun i => memS l1 i || memS l2 i).map boolC) ∧ Grew w wr)
  case atStart => exact ⟨0, by omega, by omega, rfl, OwnL.empty w _ _ _ (Nat.le_refl _) rfl, by (repeat' first | (with_reducible exact Grew.refl _) | (with_reducible assumption) | (with_reducible refine Grew.alloc ?_ _) | (with_reducible refine Grew.drew ?_) | (with_reducible refine Grew.drewN ?_ _) | (with_reducible refine Grew.setRow ?_ (by first | (simp; done) | (simp; omega) | omega) _) | (with_reducible refine Grew.setCell ?_ (by first | (simp; done) | (simp; omega) | omega) _) | ((with_reducible apply Grew.trans); rotate_left; (with_reducible assumption)) | ((with_reducible apply Grew.turn); rotate_left; (with_reducible assumption); (focus (intro i hi; first | omega | (simp at hi; omega)))) | fail)⟩
  case round =>
    obtain ⟨k, hk, hgk, rfl, hown, hg⟩ := hrel
    have HGK := Lib.hid hgk
    clear hgk
    by_cases hlt : k < 128
    · go_wp2_with fail
      refine (refin_any A1 c1 l1 wr B (Nat.le_trans hB hg.size) hl1 (HR1.out.keep hB hg) k (by omega) (by omega)).mono ?_
      rintro e w1 ⟨rfl, g1⟩
      rw [inT_nat]
      have hg1 := hg.trans g1
      go_wp2_with fail
      refine (refin_any A2 c2 l2 w1 B (Nat.le_trans hB hg1.size) hl2 (HR2.out.keep hB hg1) k (by omega) (by omega)).mono ?_
      rintro e w2 ⟨rfl, g2⟩
      rw [inT_nat]
      have hg2 := hg1.trans g2
      have hown2 := (hown.grew g1).grew g2
      clear hg1 hown hg g1 g2
      have HN := Lib.hid (show ((List.range (k + 1)).map fun i => memS l1 i || memS l2 i) = ((List.range k).map fun i => memS l1 i || memS l2 i) ++ [(fun i => memS l1 i || memS l2 i) k] from by rw [List.range_succ, List.map_append]; rfl)
      rcases hX : memS l1 k with _ | _ <;> rcases hY : memS l2 k with _ | _
      · have HV := Lib.hid (show (fun i => memS l1 i || memS l2 i) k = false from by simp only [hX, hY]; rfl)
        clear hX hY
        go_wp2_with (at_builtin; refine wpList_push rfl _ _ 74 rfl w.heap.size 4 1 1 _ Try.underlying74 info_bool rfl (by decide) w2 _ (((List.range k).map fun i => memS l1 i || memS l2 i).map boolC) (boolC false) (by rfl) rfl rfl hown2 (by first | rfl | (simp; done)) rfl rfl (by rw [List.length_map, List.length_map, List.length_range]; omega) (by rw [List.length_map, List.length_map, List.length_range]; omega) hg2.size ?_; intro v' w1 hown1 hgr hbk hsz)
        go_roundg (128 - (k + 1))
        case measure => rw [HGK.out]; omega
        case rel => exact ⟨k + 1, by omega, by omega, by go_num, by rw [HN.out, HV.out, List.map_append]; exact hown1, hgr _ hg2 (Nat.le_refl _)⟩
      · have HV := Lib.hid (show (fun i => memS l1 i || memS l2 i) k = true from by simp only [hX, hY]; rfl)
        clear hX hY
        go_wp2_with (at_builtin; refine wpList_push rfl _ _ 74 rfl w.heap.size 4 1 1 _ Try.underlying74 info_bool rfl (by decide) w2 _ (((List.range k).map fun i => memS l1 i || memS l2 i).map boolC) (boolC true) (by rfl) rfl rfl hown2 (by first | rfl | (simp; done)) rfl rfl (by rw [List.length_map, List.length_map, List.length_range]; omega) (by rw [List.length_map, List.length_map, List.length_range]; omega) hg2.size ?_; intro v' w1 hown1 hgr hbk hsz)
        go_roundg (128 - (k + 1))
        case measure => rw [HGK.out]; omega
        case rel => exact ⟨k + 1, by omega, by omega, by go_num, by rw [HN.out, HV.out, List.map_append]; exact hown1, hgr _ hg2 (Nat.le_refl _)⟩
      · have HV := Lib.hid (show (fun i => memS l1 i || memS l2 i) k = true from by simp only [hX, hY]; rfl)
        clear hX hY
        go_wp2_with (at_builtin; refine wpList_push rfl _ _ 74 rfl w.heap.size 4 1 1 _ Try.underlying74 info_bool rfl (by decide) w2 _ (((List.range k).map fun i => memS l1 i || memS l2 i).map boolC) (boolC true) (by rfl) rfl rfl hown2 (by first | rfl | (simp; done)) rfl rfl (by rw [List.length_map, List.length_map, List.length_range]; omega) (by rw [List.length_map, List.length_map, List.length_range]; omega) hg2.size ?_; intro v' w1 hown1 hgr hbk hsz)
        go_roundg (128 - (k + 1))
        case measure => rw [HGK.out]; omega
        case rel => exact ⟨k + 1, by omega, by omega, by go_num, by rw [HN.out, HV.out, List.map_append]; exact hown1, hgr _ hg2 (Nat.le_refl _)⟩
      · have HV := Lib.hid (show (fun i => memS l1 i || memS l2 i) k = true from by simp only [hX, hY]; rfl)
        clear hX hY
        go_wp2_with (at_builtin; refine wpList_push rfl _ _ 74 rfl w.heap.size 4 1 1 _ Try.underlying74 info_bool rfl (by decide) w2 _ (((List.range k).map fun i => memS l1 i || memS l2 i).map boolC) (boolC true) (by rfl) rfl rfl hown2 (by first | rfl | (simp; done)) rfl rfl (by rw [List.length_map, List.length_map, List.length_range]; omega) (by rw [List.length_map, List.length_map, List.length_range]; omega) hg2.size ?_; intro v' w1 hown1 hgr hbk hsz)
        go_roundg (128 - (k + 1))
        case measure => rw [HGK.out]; omega
        case rel => exact ⟨k + 1, by omega, by omega, by go_num, by rw [HN.out, HV.out, List.map_append]; exact hown1, hgr _ hg2 (Nat.le_refl _)⟩
    · obtain rfl : k = 128 := by omega
      obtain ⟨A, c, hv, h1, h2, hla⟩ := hown.listAt
      rw [List.length_map] at hv
      subst hv
      have hC := refset_any A c _ wr wr.heap.size (Nat.le_refl _) (by rw [List.length_map, List.length_range]; omega) hla
      rw [show normTo (hasS ((List.range 128).map fun i => memS l1 i || memS l2 i)) ((List.range 128).map fun i => memS l1 i || memS l2 i).length = normS (fun i => memS l1 i || memS l2 i) from by
        rw [List.length_map, List.length_range]; exact normTo_congr 128 (fun i hi => hasS_range _ 128 i hi)] at hC
      have HC := Lib.hid hC
      clear hC hlt hla
      go_wp2_with fail
      refine HC.out.mono ?_
      rintro e w3 ⟨v, rfl, hown3, g3⟩
      go_wp2_with fail
      go_ret
      exact ⟨v, rfl, hown3.mono hg.size, hg.trans g3⟩
set_option maxRecDepth 100000 in
set_option maxHeartbeats 8000000 in
theorem set_both (A1 A2 : Option Addr) (c1 c2 : Nat) (l1 l2 : List (Int × Int)) (w : World) (B : Nat) (hB : B ≤ w.heap.size) (hl1 : l1.length ≤ 1000000) (hl2 : l2.length ≤ 1000000) (hr1 : RunsAt w B A1 l1) (hr2 : RunsAt w B A2 l2) :
    Calls Try.prog 56 #[.slice A1 l1.length c1, .slice A2 l2.length c2, .bool false, .bool false, .bool true] w fun e w' => ∃ v, e = .returned v ∧ OwnL w' w.heap.size 25 2 v ((normS fun i => memS l1 i && memS l2 i).map rowN) ∧ Grew w w' := by
  have HR1 := Lib.hid hr1
  have HR2 := Lib.hid hr2
  clear hr1 hr2
  go_enter Try.func56, Try.ntmps56
  go_wp2_with fail
  go_loopg [11, 12] 128 (fun gk v i wr => ∃ k : Nat, k ≤ 128 ∧ gk = 128 - k ∧ i = .int .i64 k ∧ OwnL wr w.heap.size 4 1 v (((List.range k).map fun i => memS l1 i && memS l2 i).map boolC) ∧ Grew w wr)
  case atStart => exact ⟨0, by omega, by omega, rfl, OwnL.empty w _ _ _ (Nat.le_refl _) rfl, by (repeat' first | (with_reducible exact Grew.refl _) | (with_reducible assumption) | (with_reducible refine Grew.alloc ?_ _) | (with_reducible refine Grew.drew ?_) | (with_reducible refine Grew.drewN ?_ _) | (with_reducible refine Grew.setRow ?_ (by first | (simp; done) | (simp; omega) | omega) _) | (with_reducible refine Grew.setCell ?_ (by first | (simp; done) | (simp; omega) | omega) _) | ((with_reducible apply Grew.trans); rotate_left; (with_reducible assumption)) | ((with_reducible apply Grew.turn); rotate_left; (with_reducible assumption); (focus (intro i hi; first | omega | (simp at hi; omega)))) | fail)⟩
  case round =>
    obtain ⟨k, hk, hgk, rfl, hown, hg⟩ := hrel
    have HGK := Lib.hid hgk
    clear hgk
    by_cases hlt : k < 128
    · go_wp2_with fail
      refine (refin_any A1 c1 l1 wr B (Nat.le_trans hB hg.size) hl1 (HR1.out.keep hB hg) k (by omega) (by omega)).mono ?_
      rintro e w1 ⟨rfl, g1⟩
      rw [inT_nat]
      have hg1 := hg.trans g1
      go_wp2_with fail
      refine (refin_any A2 c2 l2 w1 B (Nat.le_trans hB hg1.size) hl2 (HR2.out.keep hB hg1) k (by omega) (by omega)).mono ?_
      rintro e w2 ⟨rfl, g2⟩
      rw [inT_nat]
      have hg2 := hg1.trans g2
      have hown2 := (hown.grew g1).grew g2
      clear hg1 hown hg g1 g2
      have HN := Lib.hid (show ((List.range (k + 1)).map fun i => memS l1 i && memS l2 i) = ((List.range k).map fun i => memS l1 i && memS l2 i) ++ [(fun i => memS l1 i && memS l2 i) k] from by rw [List.range_succ, List.map_append]; rfl)
      rcases hX : memS l1 k with _ | _ <;> rcases hY : memS l2 k with _ | _
      · have HV := Lib.hid (show (fun i => memS l1 i && memS l2 i) k = false from by simp only [hX, hY]; rfl)
        clear hX hY
        go_wp2_with (at_builtin; refine wpList_push rfl _ _ 74 rfl w.heap.size 4 1 1 _ Try.underlying74 info_bool rfl (by decide) w2 _ (((List.range k).map fun i => memS l1 i && memS l2 i).map boolC) (boolC false) (by rfl) rfl rfl hown2 (by first | rfl | (simp; done)) rfl rfl (by rw [List.length_map, List.length_map, List.length_range]; omega) (by rw [List.length_map, List.length_map, List.length_range]; omega) hg2.size ?_; intro v' w1 hown1 hgr hbk hsz)
        go_roundg (128 - (k + 1))
        case measure => rw [HGK.out]; omega
        case rel => exact ⟨k + 1, by omega, by omega, by go_num, by rw [HN.out, HV.out, List.map_append]; exact hown1, hgr _ hg2 (Nat.le_refl _)⟩
      · have HV := Lib.hid (show (fun i => memS l1 i && memS l2 i) k = false from by simp only [hX, hY]; rfl)
        clear hX hY
        go_wp2_with (at_builtin; refine wpList_push rfl _ _ 74 rfl w.heap.size 4 1 1 _ Try.underlying74 info_bool rfl (by decide) w2 _ (((List.range k).map fun i => memS l1 i && memS l2 i).map boolC) (boolC false) (by rfl) rfl rfl hown2 (by first | rfl | (simp; done)) rfl rfl (by rw [List.length_map, List.length_map, List.length_range]; omega) (by rw [List.length_map, List.length_map, List.length_range]; omega) hg2.size ?_; intro v' w1 hown1 hgr hbk hsz)
        go_roundg (128 - (k + 1))
        case measure => rw [HGK.out]; omega
        case rel => exact ⟨k + 1, by omega, by omega, by go_num, by rw [HN.out, HV.out, List.map_append]; exact hown1, hgr _ hg2 (Nat.le_refl _)⟩
      · have HV := Lib.hid (show (fun i => memS l1 i && memS l2 i) k = false from by simp only [hX, hY]; rfl)
        clear hX hY
        go_wp2_with (at_builtin; refine wpList_push rfl _ _ 74 rfl w.heap.size 4 1 1 _ Try.underlying74 info_bool rfl (by decide) w2 _ (((List.range k).map fun i => memS l1 i && memS l2 i).map boolC) (boolC false) (by rfl) rfl rfl hown2 (by first | rfl | (simp; done)) rfl rfl (by rw [List.length_map, List.length_map, List.length_range]; omega) (by rw [List.length_map, List.length_map, List.length_range]; omega) hg2.size ?_; intro v' w1 hown1 hgr hbk hsz)
        go_roundg (128 - (k + 1))
        case measure => rw [HGK.out]; omega
        case rel => exact ⟨k + 1, by omega, by omega, by go_num, by rw [HN.out, HV.out, List.map_append]; exact hown1, hgr _ hg2 (Nat.le_refl _)⟩
      · have HV := Lib.hid (show (fun i => memS l1 i && memS l2 i) k = true from by simp only [hX, hY]; rfl)
        clear hX hY
        go_wp2_with (at_builtin; refine wpList_push rfl _ _ 74 rfl w.heap.size 4 1 1 _ Try.underlying74 info_bool rfl (by decide) w2 _ (((List.range k).map fun i => memS l1 i && memS l2 i).map boolC) (boolC true) (by rfl) rfl rfl hown2 (by first | rfl | (simp; done)) rfl rfl (by rw [List.length_map, List.length_map, List.length_range]; omega) (by rw [List.length_map, List.length_map, List.length_range]; omega) hg2.size ?_; intro v' w1 hown1 hgr hbk hsz)
        go_roundg (128 - (k + 1))
        case measure => rw [HGK.out]; omega
        case rel => exact ⟨k + 1, by omega, by omega, by go_num, by rw [HN.out, HV.out, List.map_append]; exact hown1, hgr _ hg2 (Nat.le_refl _)⟩
    · obtain rfl : k = 128 := by omega
      obtain ⟨A, c, hv, h1, h2, hla⟩ := hown.listAt
      rw [List.length_map] at hv
      subst hv
      have hC := refset_any A c _ wr wr.heap.size (Nat.le_refl _) (by rw [List.length_map, List.length_range]; omega) hla
      rw [show normTo (hasS ((List.range 128).map fun i => memS l1 i && memS l2 i)) ((List.range 128).map fun i => memS l1 i && memS l2 i).length = normS (fun i => memS l1 i && memS l2 i) from by
        rw [List.length_map, List.length_range]; exact normTo_congr 128 (fun i hi => hasS_range _ 128 i hi)] at hC
      have HC := Lib.hid hC
      clear hC hlt hla
      go_wp2_with fail
      refine HC.out.mono ?_
      rintro e w3 ⟨v, rfl, hown3, g3⟩
      go_wp2_with fail
      go_ret
      exact ⟨v, rfl, hown3.mono hg.size, hg.trans g3⟩
set_option maxRecDepth 100000 in
set_option maxHeartbeats 8000000 in
theorem set_one (A1 A2 : Option Addr) (c1 c2 : Nat) (l1 l2 : List (Int × Int)) (w : World) (B : Nat) (hB : B ≤ w.heap.size) (hl1 : l1.length ≤ 1000000) (hl2 : l2.length ≤ 1000000) (hr1 : RunsAt w B A1 l1) (hr2 : RunsAt w B A2 l2) :
    Calls Try.prog 56 #[.slice A1 l1.length c1, .slice A2 l2.length c2, .bool true, .bool false, .bool false] w fun e w' => ∃ v, e = .returned v ∧ OwnL w' w.heap.size 25 2 v ((normS fun i => memS l1 i && !memS l2 i).map rowN) ∧ Grew w w' := by
  have HR1 := Lib.hid hr1
  have HR2 := Lib.hid hr2
  clear hr1 hr2
  go_enter Try.func56, Try.ntmps56
  go_wp2_with fail
  go_loopg [11, 12] 128 (fun gk v i wr => ∃ k : Nat, k ≤ 128 ∧ gk = 128 - k ∧ i = .int .i64 k ∧ OwnL wr w.heap.size 4 1 v (((List.range k).map fun i => memS l1 i && !memS l2 i).map boolC) ∧ Grew w wr)
  case atStart => exact ⟨0, by omega, by omega, rfl, OwnL.empty w _ _ _ (Nat.le_refl _) rfl, by (repeat' first | (with_reducible exact Grew.refl _) | (with_reducible assumption) | (with_reducible refine Grew.alloc ?_ _) | (with_reducible refine Grew.drew ?_) | (with_reducible refine Grew.drewN ?_ _) | (with_reducible refine Grew.setRow ?_ (by first | (simp; done) | (simp; omega) | omega) _) | (with_reducible refine Grew.setCell ?_ (by first | (simp; done) | (simp; omega) | omega) _) | ((with_reducible apply Grew.trans); rotate_left; (with_reducible assumption)) | ((with_reducible apply Grew.turn); rotate_left; (with_reducible assumption); (focus (intro i hi; first | omega | (simp at hi; omega)))) | fail)⟩
  case round =>
    obtain ⟨k, hk, hgk, rfl, hown, hg⟩ := hrel
    have HGK := Lib.hid hgk
    clear hgk
    by_cases hlt : k < 128
    · go_wp2_with fail
      refine (refin_any A1 c1 l1 wr B (Nat.le_trans hB hg.size) hl1 (HR1.out.keep hB hg) k (by omega) (by omega)).mono ?_
      rintro e w1 ⟨rfl, g1⟩
      rw [inT_nat]
      have hg1 := hg.trans g1
      go_wp2_with fail
      refine (refin_any A2 c2 l2 w1 B (Nat.le_trans hB hg1.size) hl2 (HR2.out.keep hB hg1) k (by omega) (by omega)).mono ?_
      rintro e w2 ⟨rfl, g2⟩
      rw [inT_nat]
      have hg2 := hg1.trans g2
      have hown2 := (hown.grew g1).grew g2
      clear hg1 hown hg g1 g2
      have HN := Lib.hid (show ((List.range (k + 1)).map fun i => memS l1 i && !memS l2 i) = ((List.range k).map fun i => memS l1 i && !memS l2 i) ++ [(fun i => memS l1 i && !memS l2 i) k] from by rw [List.range_succ, List.map_append]; rfl)
      rcases hX : memS l1 k with _ | _ <;> rcases hY : memS l2 k with _ | _
      · have HV := Lib.hid (show (fun i => memS l1 i && !memS l2 i) k = false from by simp only [hX, hY]; rfl)
        clear hX hY
        go_wp2_with (at_builtin; refine wpList_push rfl _ _ 74 rfl w.heap.size 4 1 1 _ Try.underlying74 info_bool rfl (by decide) w2 _ (((List.range k).map fun i => memS l1 i && !memS l2 i).map boolC) (boolC false) (by rfl) rfl rfl hown2 (by first | rfl | (simp; done)) rfl rfl (by rw [List.length_map, List.length_map, List.length_range]; omega) (by rw [List.length_map, List.length_map, List.length_range]; omega) hg2.size ?_; intro v' w1 hown1 hgr hbk hsz)
        go_roundg (128 - (k + 1))
        case measure => rw [HGK.out]; omega
        case rel => exact ⟨k + 1, by omega, by omega, by go_num, by rw [HN.out, HV.out, List.map_append]; exact hown1, hgr _ hg2 (Nat.le_refl _)⟩
      · have HV := Lib.hid (show (fun i => memS l1 i && !memS l2 i) k = false from by simp only [hX, hY]; rfl)
        clear hX hY
        go_wp2_with (at_builtin; refine wpList_push rfl _ _ 74 rfl w.heap.size 4 1 1 _ Try.underlying74 info_bool rfl (by decide) w2 _ (((List.range k).map fun i => memS l1 i && !memS l2 i).map boolC) (boolC false) (by rfl) rfl rfl hown2 (by first | rfl | (simp; done)) rfl rfl (by rw [List.length_map, List.length_map, List.length_range]; omega) (by rw [List.length_map, List.length_map, List.length_range]; omega) hg2.size ?_; intro v' w1 hown1 hgr hbk hsz)
        go_roundg (128 - (k + 1))
        case measure => rw [HGK.out]; omega
        case rel => exact ⟨k + 1, by omega, by omega, by go_num, by rw [HN.out, HV.out, List.map_append]; exact hown1, hgr _ hg2 (Nat.le_refl _)⟩
      · have HV := Lib.hid (show (fun i => memS l1 i && !memS l2 i) k = true from by simp only [hX, hY]; rfl)
        clear hX hY
        go_wp2_with (at_builtin; refine wpList_push rfl _ _ 74 rfl w.heap.size 4 1 1 _ Try.underlying74 info_bool rfl (by decide) w2 _ (((List.range k).map fun i => memS l1 i && !memS l2 i).map boolC) (boolC true) (by rfl) rfl rfl hown2 (by first | rfl | (simp; done)) rfl rfl (by rw [List.length_map, List.length_map, List.length_range]; omega) (by rw [List.length_map, List.length_map, List.length_range]; omega) hg2.size ?_; intro v' w1 hown1 hgr hbk hsz)
        go_roundg (128 - (k + 1))
        case measure => rw [HGK.out]; omega
        case rel => exact ⟨k + 1, by omega, by omega, by go_num, by rw [HN.out, HV.out, List.map_append]; exact hown1, hgr _ hg2 (Nat.le_refl _)⟩
      · have HV := Lib.hid (show (fun i => memS l1 i && !memS l2 i) k = false from by simp only [hX, hY]; rfl)
        clear hX hY
        go_wp2_with (at_builtin; refine wpList_push rfl _ _ 74 rfl w.heap.size 4 1 1 _ Try.underlying74 info_bool rfl (by decide) w2 _ (((List.range k).map fun i => memS l1 i && !memS l2 i).map boolC) (boolC false) (by rfl) rfl rfl hown2 (by first | rfl | (simp; done)) rfl rfl (by rw [List.length_map, List.length_map, List.length_range]; omega) (by rw [List.length_map, List.length_map, List.length_range]; omega) hg2.size ?_; intro v' w1 hown1 hgr hbk hsz)
        go_roundg (128 - (k + 1))
        case measure => rw [HGK.out]; omega
        case rel => exact ⟨k + 1, by omega, by omega, by go_num, by rw [HN.out, HV.out, List.map_append]; exact hown1, hgr _ hg2 (Nat.le_refl _)⟩
    · obtain rfl : k = 128 := by omega
      obtain ⟨A, c, hv, h1, h2, hla⟩ := hown.listAt
      rw [List.length_map] at hv
      subst hv
      have hC := refset_any A c _ wr wr.heap.size (Nat.le_refl _) (by rw [List.length_map, List.length_range]; omega) hla
      rw [show normTo (hasS ((List.range 128).map fun i => memS l1 i && !memS l2 i)) ((List.range 128).map fun i => memS l1 i && !memS l2 i).length = normS (fun i => memS l1 i && !memS l2 i) from by
        rw [List.length_map, List.length_range]; exact normTo_congr 128 (fun i hi => hasS_range _ 128 i hi)] at hC
      have HC := Lib.hid hC
      clear hC hlt hla
      go_wp2_with fail
      refine HC.out.mono ?_
      rintro e w3 ⟨v, rfl, hown3, g3⟩
      go_wp2_with fail
      go_ret
      exact ⟨v, rfl, hown3.mono hg.size, hg.trans g3⟩
set_option maxRecDepth 100000 in
set_option maxHeartbeats 4000000 in
theorem refnormal_any (A : Option Addr) (c : Nat) (l : List (Int × Int)) (w : World) (B : Nat) (hB : B ≤ w.heap.size) (hl : l.length ≤ 1000000) (hr : RunsAt w B A l) :
    Calls Try.prog 41 #[.slice A l.length c] w fun e w' => ∃ v, e = .returned v ∧ OwnL w' w.heap.size 25 2 v ((normS (memS l)).map rowN) ∧ Grew w w' := by
  have hC := set_one A none c 0 l [] w B hB hl (by simp) hr ⟨by simp, fun h => absurd h (by simp)⟩
  rw [show (fun i => memS l i && !memS [] i) = memS l from by funext i; simp [memS]] at hC
  have HC := Lib.hid hC
  clear hC
  go_enter Try.func41, Try.ntmps41
  go_wp2_with fail
  refine HC.out.mono ?_
  rintro e w1 ⟨v, rfl, hown, g1⟩
  go_wp2_with fail
  go_ret
  exact ⟨v, rfl, hown, g1⟩
end Go.Proofs.Ytenbcjlikoajdaa
