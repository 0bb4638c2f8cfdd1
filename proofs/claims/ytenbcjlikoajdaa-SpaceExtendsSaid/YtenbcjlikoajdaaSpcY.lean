/- Chapter 6: the reference's Extend. -/
import Derived.Test.YtenbcjlikoajdaaSpcX
import Derived.Test.YtenbcjlikoajdaaSpcP
namespace Go.Proofs.Ytenbcjlikoajdaa
set_option linter.unusedVariables false
set_option linter.unusedSimpArgs false
set_option linter.unusedSectionVars false
open Go.RowKit
section
variable (A1 A2 : Option Addr) (c1 c2 : Nat) (l1 l2 : List (Int × Int)) (w : World) (B : Nat) (hB : B ≤ w.heap.size) (hl1 : l1.length ≤ 1000) (hl2 : l2.length ≤ 1000000) (hr1 : RunsAt w B A1 l1) (hr2 : RunsAt w B A2 l2) (n : Int) (n0 : -9223372036854775808 ≤ n) (n1 : n ≤ 9223372036854775807)
include hB hl1 hl2 hr1 hr2 n0 n1
set_option maxRecDepth 100000 in
set_option maxHeartbeats 4000000 in
theorem rextend_any : Calls Try.prog 18 #[.slice A1 l1.length c1, .slice A2 l2.length c2, .int .i64 n] w (AllocR w (extS l1 l2 n)) := by
  have HJ := Lib.hid (refjoin_any A1 c1 l1 w B hB (by omega) hr1)
  have hjl := joinS_len l1
  have hjb := joinS_bd l1
  by_cases h1 : n < 1
  · have HE := Lib.hid (show extS l1 l2 n = ([], 1) from by unfold extS; rw [if_pos (.inl h1)])
    go_enter Try.func18, Try.ntmps18
    go_wp2_with fail
    refine HJ.out.mono ?_
    rintro e w1 ⟨v, rfl, hown, g1⟩
    go_wp2_with fail
    go_returns
    rw [HE.out]
    exact ⟨_, rfl, OwnL.nil _ _ _ _, g1⟩
  obtain ⟨nn, rfl⟩ : ∃ nn : Nat, n = (nn : Int) := ⟨n.toNat, by omega⟩
  rcases last_cases (joinS l1) with h0 | ⟨I, x, hL⟩
  · have HE := Lib.hid (show extS l1 l2 (nn : Int) = ([], 1) from by unfold extS; rw [if_pos (.inr h0)])
    go_enter Try.func18, Try.ntmps18
    go_wp2_with fail
    refine HJ.out.mono ?_
    rintro e w1 ⟨v, rfl, hown, g1⟩
    rw [h0] at hown
    obtain ⟨A', c', hv, -⟩ := hown.listAt
    subst hv
    go_wp2_with fail
    go_returns
    rw [HE.out]
    exact ⟨_, rfl, OwnL.nil _ _ _ _, g1⟩
  have HEQ := Lib.hid (fun k h2 h3 h4 => extS_eq l1 l2 nn I x k hL (by omega) h2 h3 h4)
  have HBD := Lib.hid (fun k h => ext_bd I x (ints (extF (I ++ [x]) l2)) k (by rw [← hL]; exact hjb) h)
  rw [hL] at hjl hjb HJ
  have HJB := Lib.hid hjb
  have hIl : I.length + 1 ≤ 1000 := by simp at hjl; omega
  have HMIN := Lib.hid (fun (w1 : World) (g1 : Grew w w1) A c (h : RunsAt w1 w1.heap.size A (ints (I ++ [x]))) => rminus_any A2 A c2 c l2 (ints (I ++ [x])) w1 w1.heap.size (Nat.le_refl _) hl2 (by rw [ints_len]; simp; omega) (RunsAt.wide (hr2.keep hB g1) (Nat.le_trans hB g1.size)) h)
  clear hr1 hr2 hjl hjb hL
  go_enter Try.func18, Try.ntmps18
  go_wp2_with fail
  refine HJ.out.mono ?_
  rintro e w1 ⟨v, rfl, hown, g1⟩
  obtain ⟨A', c', hv', hrL, _, _, hA'⟩ := own_runs2 hown (fun r hr => Nat.le_trans (HJB.out r hr) (by omega))
  rcases hown.form with ⟨_, hn0⟩ | ⟨g, cap, hv, hg1, hg2, _, _⟩
  · exfalso; have := congrArg List.length hn0; simp at this
  rw [List.length_map, List.length_append, List.length_singleton] at hv
  rw [List.length_append, List.length_singleton, hv] at hv'
  injection hv' with e1 e2 e3
  subst e1; subst e3; subst hv
  have HM2 := Lib.hid (HMIN.out w1 g1 _ cap hrL)
  rw [ints_len, List.length_append, List.length_singleton] at HM2
  clear HMIN HJ hA' e2
  have hz0 : ((I.length : Int) + 1 == 0) = false := beq_eq_false_iff_ne.2 (by omega)
  have hnd : decide ((nn : Int) < 1) = false := decide_eq_false (by omega)
  have h1p : 1 ≤ nn := by omega
  go_wp2_with fail
  refine HM2.out.mono ?_
  rintro e w2 ⟨v2, rfl, hown2, g2⟩
  rw [show (normS fun i => memS l2 i && !memS (ints (I ++ [x])) i) = extF (I ++ [x]) l2 from rfl] at hown2
  obtain ⟨F, hF⟩ : ∃ F, extF (I ++ [x]) l2 = F := ⟨_, rfl⟩
  have hFb : ∀ r ∈ extF (I ++ [x]) l2, r.1 + r.2 ≤ 128 := normS_bd _
  have hFl : (extF (I ++ [x]) l2).length ≤ 128 := normS_len _
  rw [hF] at hown2 hFb hFl
  rw [hF] at HBD HEQ
  have HF := Lib.hid hF
  obtain ⟨AF, cF, hvF, hrF, _, _, hAF⟩ := own_runs2 hown2 (fun r hr => Nat.le_trans (hFb r hr) (by omega))
  subst hvF
  have hAF2 : ∀ b off, AF = some ⟨b, off, none⟩ → ¬ b = g := fun b off e => by have := (hAF b off e).1; omega
  have hownL := hown.grew g2
  have hG := g1.trans g2
  have hg2' : g < w2.heap.size := by have := g2.size; omega
  obtain ⟨xf, xc⟩ := x
  have hz : leftK F (xf + xc) 0 = F := by rw [← hF]; exact leftK_zero _ _
  have HX := Lib.hid (fun k (h : xf + (xc + k) ≤ 128) => leftK_ext I (xf, xc) l2 k h)
  rw [hF] at HX
  clear HM2 hF hown2 hAF hown hrL g1 g2
  go_wp2_with fail
  go_loopg [2, 9] nn (fun gk nv lv wr => ∃ k : Nat, k ≤ nn ∧ gk = nn - k ∧ nv = .int .i64 ((nn - k : Nat) : Int) ∧ (∀ j, j < k → memS (ints F) (xf + xc + j) = true) ∧ OwnL wr w.heap.size 25 2 (.slice (some ⟨g, 0, none⟩) (I.length + 1) cap) ((I ++ [(xf, xc + k)]).map rowN) ∧ (∃ A c, lv = .slice A (leftK F (xf + xc) k).length c ∧ RunsAt wr wr.heap.size A (ints (leftK F (xf + xc) k)) ∧ ∀ b off, A = some ⟨b, off, none⟩ → ¬ b = g) ∧ Turned (fun i => i = g) w2 wr)
  case atStart => exact ⟨0, by omega, by omega, by simp, fun j hj => by omega, hownL, ⟨AF, cF, by rw [hz], by rw [hz]; exact hrF, hAF2⟩, Turned.refl _ _⟩
  case round =>
    obtain ⟨k, hk, hgk, rfl, hall, hownk, ⟨AK, cK, rfl, hrK, hAK⟩, ht⟩ := hrel
    have HGK := Lib.hid hgk
    clear hgk
    have hrow : ((I ++ [(xf, xc + k)]).map rowN)[I.length]? = some (rowN (xf, xc + k)) := by simp
    have y0 : wr.cell? ⟨g, I.length * 2, none⟩ = some (.int .i64 (xf : Int)) := hownk.cell (i := 0) hrow rfl
    have y1 : wr.cell? ⟨g, I.length * 2 + 1, none⟩ = some (.int .i64 ((xc : Int) + (k : Int))) := by have := hownk.cell (i := 1) hrow rfl; rw [this]; rfl
    have yf1 := hownk.frozen (I.length * 2 + 1)
    have hbk : xf + (xc + k) ≤ 128 := HBD.out k hall (xf, xc + k) (by simp [extL])
    have hts := ht.size
    have hgw : g < wr.heap.size := by omega
    have hKl : (leftK F (xf + xc) k).length ≤ 128 := normS_len _
    have hIN : inT (ints (leftK F (xf + xc) k)) ((xf : Int) + ((xc : Int) + (k : Int))) = memS (ints F) (xf + xc + k) := by rw [show (xf : Int) + ((xc : Int) + (k : Int)) = ((xf + xc + k : Nat) : Int) by omega, inT_nat, leftK_at]
    have HSUC := Lib.hid (fun h => leftK_succ F (xf + xc) k h)
    have HXK := Lib.hid (HX.out k hbk)
    generalize leftK F (xf + xc) k = LK at *
    have hw : IntKind.i64.wrap ((xf : Int) + ((xc : Int) + (k : Int))) = (xf : Int) + ((xc : Int) + (k : Int)) := by rw [IntKind.wrap_i64]; omega
    obtain ⟨m, hm⟩ : ∃ m, nn - k = m := ⟨_, rfl⟩
    rw [hm]
    have HALL := Lib.hid hall
    have HOWN := Lib.hid hownk
    have HT := Lib.hid ht
    have HRK := Lib.hid hrK
    have HAK := Lib.hid hAK
    have HROW := Lib.hid hrow
    have HINX := Lib.hid hIN
    clear hall hownk ht hrK hAK hrow hIN
    by_cases hm0 : m = 0
    · have hkn : k = nn := by omega
      subst hm0
      have HE := Lib.hid (show extS l1 l2 (nn : Int) = (extL I (xf, xc) k, 0) from by rw [HEQ.out k hk HALL.out (.inl hkn)]; unfold extG; rw [if_pos hm])
      have hGx : Grew w wr := hG.turn HT.out (fun i hi => by omega)
      have HGX := Lib.hid hGx
      clear hm hkn hGx
      go_wp2_with fail
      refine wp_region_R [] (fun w' : World => w'.cell? ⟨g, I.length * 2, none⟩ = some (.int .i64 (xf : Int)) ∧ w'.cell? ⟨g, I.length * 2 + 1, none⟩ = some (.int .i64 ((xc : Int) + (k : Int)))) (by kernel_rfl) ?_
      have hS := (show (fun w' : World => w'.cell? ⟨g, I.length * 2, none⟩ = some (.int .i64 (xf : Int)) ∧ w'.cell? ⟨g, I.length * 2 + 1, none⟩ = some (.int .i64 ((xc : Int) + (k : Int)))) wr.drew from ⟨y0, y1⟩)
      refine wpAnyR_takeQ (i := 0) (v := ?_) (some 28) rfl rfl (by kernel_rfl) (by kernel_rfl) (by kernel_rfl) (by kernel_rfl) (fun _ _ _ h => h) (Or.inl ⟨by rfl, ?_⟩) ?_
      rotate_left
      focus (intro wS hSw; (try dsimp only at hSw); go_simp; (try with_reducible rfl); (try (first | (rw [if_pos (by omega)]; (try go_simp); (try with_reducible rfl)) | (rw [if_neg (by omega)]; (try go_simp); (try with_reducible rfl)))))
      try simp only [Act.put, List.setIfInBounds_toArray, List.set_cons_zero, List.set_cons_succ]
      refine wpAnyR_takeQ (i := 1) (v := ?_) (some 29) rfl rfl (by kernel_rfl) (by kernel_rfl) (by kernel_rfl) (by kernel_rfl) (fun _ _ _ h => h) (Or.inl ⟨by rfl, ?_⟩) ?_
      rotate_left
      focus (intro wS hSw; (try dsimp only at hSw); go_simp; (try with_reducible rfl); (try (first | (rw [if_pos (by omega)]; (try go_simp); (try with_reducible rfl)) | (rw [if_neg (by omega)]; (try go_simp); (try with_reducible rfl)))))
      try simp only [Act.put, List.setIfInBounds_toArray, List.set_cons_zero, List.set_cons_succ]
      refine wpAnyR_takeQ (i := 2) (v := ?_) (some 30) rfl rfl (by kernel_rfl) (by kernel_rfl) (by kernel_rfl) (by kernel_rfl) (fun _ _ _ h => h) (Or.inl ⟨by rfl, ?_⟩) ?_
      rotate_left
      focus (intro wS hSw; (try dsimp only at hSw); go_simp; (try with_reducible rfl); (try (first | (rw [if_pos (by omega)]; (try go_simp); (try with_reducible rfl)) | (rw [if_neg (by omega)]; (try go_simp); (try with_reducible rfl)))))
      try simp only [Act.put, List.setIfInBounds_toArray, List.set_cons_zero, List.set_cons_succ]
      refine wpAnyR_takeQ (i := 3) (v := undef) (some 31) rfl rfl (by kernel_rfl) (by kernel_rfl) (by kernel_rfl) (by kernel_rfl) (fun _ _ _ h => h) (Or.inr ⟨by rfl, rfl⟩) ?_
      try simp only [Act.put, List.setIfInBounds_toArray, List.set_cons_zero, List.set_cons_succ]
      refine wpAnyR_takeQ (i := 4) (v := undef) (some 32) rfl rfl (by kernel_rfl) (by kernel_rfl) (by kernel_rfl) (by kernel_rfl) (fun _ _ _ h => h) (Or.inr ⟨by rfl, rfl⟩) ?_
      try simp only [Act.put, List.setIfInBounds_toArray, List.set_cons_zero, List.set_cons_succ]
      refine wpAnyR_takeQ (i := 5) (v := undef) (some 33) rfl rfl (by kernel_rfl) (by kernel_rfl) (by kernel_rfl) (by kernel_rfl) (fun _ _ _ h => h) (Or.inr ⟨by rfl, rfl⟩) ?_
      try simp only [Act.put, List.setIfInBounds_toArray, List.set_cons_zero, List.set_cons_succ]
      refine wpAnyR_takeQ (i := 6) (v := undef) (some 34) rfl rfl (by kernel_rfl) (by kernel_rfl) (by kernel_rfl) (by kernel_rfl) (fun _ _ _ h => h) (Or.inr ⟨by rfl, rfl⟩) ?_
      try simp only [Act.put, List.setIfInBounds_toArray, List.set_cons_zero, List.set_cons_succ]
      refine wpAnyR_takeQ (i := 7) (v := undef) (some 35) rfl rfl (by kernel_rfl) (by kernel_rfl) (by kernel_rfl) (by kernel_rfl) (fun _ _ _ h => h) (Or.inr ⟨by rfl, rfl⟩) ?_
      try simp only [Act.put, List.setIfInBounds_toArray, List.set_cons_zero, List.set_cons_succ]
      refine wpAnyR_takeQ (i := 8) (v := undef) (some 36) rfl rfl (by kernel_rfl) (by kernel_rfl) (by kernel_rfl) (by kernel_rfl) (fun _ _ _ h => h) (Or.inr ⟨by rfl, rfl⟩) ?_
      try simp only [Act.put, List.setIfInBounds_toArray, List.set_cons_zero, List.set_cons_succ]
      refine wpAnyR_takeQ (i := 9) (v := undef) (some 37) rfl rfl (by kernel_rfl) (by kernel_rfl) (by kernel_rfl) (by kernel_rfl) (fun _ _ _ h => h) (Or.inr ⟨by rfl, rfl⟩) ?_
      try simp only [Act.put, List.setIfInBounds_toArray, List.set_cons_zero, List.set_cons_succ]
      refine wpAnyR_takeQ (i := 10) (v := undef) (some 38) rfl rfl (by kernel_rfl) (by kernel_rfl) (by kernel_rfl) (by kernel_rfl) (fun _ _ _ h => h) (Or.inr ⟨by rfl, rfl⟩) ?_
      try simp only [Act.put, List.setIfInBounds_toArray, List.set_cons_zero, List.set_cons_succ]
      refine wpAnyR_takeQ (i := 11) (v := undef) (some 39) rfl rfl (by kernel_rfl) (by kernel_rfl) (by kernel_rfl) (by kernel_rfl) (fun _ _ _ h => h) (Or.inr ⟨by rfl, rfl⟩) ?_
      try simp only [Act.put, List.setIfInBounds_toArray, List.set_cons_zero, List.set_cons_succ]
      refine wpAnyR_takeQ (i := 12) (v := undef) (some 40) rfl rfl (by kernel_rfl) (by kernel_rfl) (by kernel_rfl) (by kernel_rfl) (fun _ _ _ h => h) (Or.inr ⟨by rfl, rfl⟩) ?_
      try simp only [Act.put, List.setIfInBounds_toArray, List.set_cons_zero, List.set_cons_succ]
      refine wpAnyR_takeQ (i := 13) (v := undef) (some 41) rfl rfl (by kernel_rfl) (by kernel_rfl) (by kernel_rfl) (by kernel_rfl) (fun _ _ _ h => h) (Or.inr ⟨by rfl, rfl⟩) ?_
      try simp only [Act.put, List.setIfInBounds_toArray, List.set_cons_zero, List.set_cons_succ]
      refine wpAnyR_takeQ (i := 14) (v := undef) (some 42) rfl rfl (by kernel_rfl) (by kernel_rfl) (by kernel_rfl) (by kernel_rfl) (fun _ _ _ h => h) (Or.inr ⟨by rfl, rfl⟩) ?_
      try simp only [Act.put, List.setIfInBounds_toArray, List.set_cons_zero, List.set_cons_succ]
      refine wpAnyR_takeQ (i := 15) (v := undef) (some 43) rfl rfl (by kernel_rfl) (by kernel_rfl) (by kernel_rfl) (by kernel_rfl) (fun _ _ _ h => h) (Or.inr ⟨by rfl, rfl⟩) ?_
      try simp only [Act.put, List.setIfInBounds_toArray, List.set_cons_zero, List.set_cons_succ]
      refine wpAnyR_takeQ (i := 16) (v := ?_) (some 44) rfl rfl (by kernel_rfl) (by kernel_rfl) (by kernel_rfl) (by kernel_rfl) (fun _ _ _ h => h) (Or.inl ⟨by rfl, ?_⟩) ?_
      rotate_left
      focus (intro wS hSw; (try dsimp only at hSw); go_simp; (try with_reducible rfl); (try (first | (rw [if_pos (by omega)]; (try go_simp); (try with_reducible rfl)) | (rw [if_neg (by omega)]; (try go_simp); (try with_reducible rfl)))))
      try simp only [Act.put, List.setIfInBounds_toArray, List.set_cons_zero, List.set_cons_succ]
      refine wpAnyR_done (by kernel_rfl) ?_ _
      go_wp2_with fail
      go_returns
      rw [HE.out]
      exact ⟨_, rfl, HOWN.out.drew, HGX.out.drew⟩
    have hmp : 0 < m := by omega
    cases hbb : memS (ints F) (xf + xc + k) with
    | true =>
      go_wp2_with fail
      refine wp_region_R [] (fun w' : World => w'.cell? ⟨g, I.length * 2, none⟩ = some (.int .i64 (xf : Int)) ∧ w'.cell? ⟨g, I.length * 2 + 1, none⟩ = some (.int .i64 ((xc : Int) + (k : Int)))) (by kernel_rfl) ?_
      have hS := (show (fun w' : World => w'.cell? ⟨g, I.length * 2, none⟩ = some (.int .i64 (xf : Int)) ∧ w'.cell? ⟨g, I.length * 2 + 1, none⟩ = some (.int .i64 ((xc : Int) + (k : Int)))) wr.drew from ⟨y0, y1⟩)
      refine wpAnyR_takeQ (i := 0) (v := ?_) (some 28) rfl rfl (by kernel_rfl) (by kernel_rfl) (by kernel_rfl) (by kernel_rfl) (fun _ _ _ h => h) (Or.inl ⟨by rfl, ?_⟩) ?_
      rotate_left
      focus (intro wS hSw; (try dsimp only at hSw); go_simp; (try with_reducible rfl); (try (first | (rw [if_pos (by omega)]; (try go_simp); (try with_reducible rfl)) | (rw [if_neg (by omega)]; (try go_simp); (try with_reducible rfl)))))
      try simp only [Act.put, List.setIfInBounds_toArray, List.set_cons_zero, List.set_cons_succ]
      refine wpAnyR_takeQ (i := 1) (v := ?_) (some 29) rfl rfl (by kernel_rfl) (by kernel_rfl) (by kernel_rfl) (by kernel_rfl) (fun _ _ _ h => h) (Or.inl ⟨by rfl, ?_⟩) ?_
      rotate_left
      focus (intro wS hSw; (try dsimp only at hSw); go_simp; (try with_reducible rfl); (try (first | (rw [if_pos (by omega)]; (try go_simp); (try with_reducible rfl)) | (rw [if_neg (by omega)]; (try go_simp); (try with_reducible rfl)))))
      try simp only [Act.put, List.setIfInBounds_toArray, List.set_cons_zero, List.set_cons_succ]
      refine wpAnyR_takeQ (i := 2) (v := ?_) (some 30) rfl rfl (by kernel_rfl) (by kernel_rfl) (by kernel_rfl) (by kernel_rfl) (fun _ _ _ h => h) (Or.inl ⟨by rfl, ?_⟩) ?_
      rotate_left
      focus (intro wS hSw; (try dsimp only at hSw); go_simp; (try with_reducible rfl); (try (first | (rw [if_pos (by omega)]; (try go_simp); (try with_reducible rfl)) | (rw [if_neg (by omega)]; (try go_simp); (try with_reducible rfl)))))
      try simp only [Act.put, List.setIfInBounds_toArray, List.set_cons_zero, List.set_cons_succ]
      try rw [show decide ((m : Int) > 0) = true from decide_eq_true (by omega)]
      refine wpAnyR_takeQ (i := 3) (v := ?_) (some 31) rfl rfl (by kernel_rfl) (by kernel_rfl) (by kernel_rfl) (by kernel_rfl) (fun _ _ _ h => h) (Or.inl ⟨by rfl, ?_⟩) ?_
      rotate_left
      focus (intro wS hSw; (try dsimp only at hSw); go_simp; (try with_reducible rfl); (try (first | (rw [if_pos (by omega)]; (try go_simp); (try with_reducible rfl)) | (rw [if_neg (by omega)]; (try go_simp); (try with_reducible rfl)))))
      try simp only [Act.put, List.setIfInBounds_toArray, List.set_cons_zero, List.set_cons_succ]
      refine wpAnyR_takeQ (i := 4) (v := ?_) (some 32) rfl rfl (by kernel_rfl) (by kernel_rfl) (by kernel_rfl) (by kernel_rfl) (fun _ _ _ h => h) (Or.inl ⟨by rfl, ?_⟩) ?_
      rotate_left
      focus (intro wS hSw; (try dsimp only at hSw); go_simp; (try with_reducible rfl); (try (first | (rw [if_pos (by omega)]; (try go_simp); (try with_reducible rfl)) | (rw [if_neg (by omega)]; (try go_simp); (try with_reducible rfl)))))
      try simp only [Act.put, List.setIfInBounds_toArray, List.set_cons_zero, List.set_cons_succ]
      refine wpAnyR_takeQ (i := 5) (v := ?_) (some 33) rfl rfl (by kernel_rfl) (by kernel_rfl) (by kernel_rfl) (by kernel_rfl) (fun _ _ _ h => h) (Or.inl ⟨by rfl, ?_⟩) ?_
      rotate_left
      focus (intro wS hSw; (try dsimp only at hSw); go_simp; (try with_reducible rfl); (try (first | (rw [if_pos (by omega)]; (try go_simp); (try with_reducible rfl)) | (rw [if_neg (by omega)]; (try go_simp); (try with_reducible rfl)))))
      try simp only [Act.put, List.setIfInBounds_toArray, List.set_cons_zero, List.set_cons_succ]
      refine wpAnyR_takeQ (i := 6) (v := ?_) (some 34) rfl rfl (by kernel_rfl) (by kernel_rfl) (by kernel_rfl) (by kernel_rfl) (fun _ _ _ h => h) (Or.inl ⟨by rfl, ?_⟩) ?_
      rotate_left
      focus (intro wS hSw; (try dsimp only at hSw); go_simp; (try with_reducible rfl); (try (first | (rw [if_pos (by omega)]; (try go_simp); (try with_reducible rfl)) | (rw [if_neg (by omega)]; (try go_simp); (try with_reducible rfl)))))
      try simp only [Act.put, List.setIfInBounds_toArray, List.set_cons_zero, List.set_cons_succ]
      refine wpAnyR_takeQ (i := 7) (v := ?_) (some 35) rfl rfl (by kernel_rfl) (by kernel_rfl) (by kernel_rfl) (by kernel_rfl) (fun _ _ _ h => h) (Or.inl ⟨by rfl, ?_⟩) ?_
      rotate_left
      focus (intro wS hSw; (try dsimp only at hSw); go_simp; (try with_reducible rfl); (try (first | (rw [if_pos (by omega)]; (try go_simp); (try with_reducible rfl)) | (rw [if_neg (by omega)]; (try go_simp); (try with_reducible rfl)))))
      try simp only [Act.put, List.setIfInBounds_toArray, List.set_cons_zero, List.set_cons_succ]
      refine wpAnyR_take (i := 8) (v := ?_) [14, 15, 16] (some 36) rfl rfl (by kernel_rfl) (by kernel_rfl) (by kernel_rfl) (by kernel_rfl) (by kernel_rfl) (by kernel_rfl) (by kernel_rfl) (fun _ _ _ h => h) (Or.inl ⟨by rfl, ?_⟩) hS ?_
      rotate_left
      focus (intro wS hSw; (try dsimp only at hSw); go_simp; (try with_reducible rfl); (try (first | (rw [if_pos (by omega)]; (try go_simp); (try with_reducible rfl)) | (rw [if_neg (by omega)]; (try go_simp); (try with_reducible rfl)))))
      try simp only [Act.put, List.setIfInBounds_toArray, List.set_cons_zero, List.set_cons_succ]
      refine wpAnyR_takeQ (i := 9) (v := ?_) (some 37) rfl rfl (by kernel_rfl) (by kernel_rfl) (by kernel_rfl) (by kernel_rfl) (fun _ _ _ h => h) (Or.inl ⟨by rfl, ?_⟩) ?_
      rotate_left
      focus (intro wS hSw; (try dsimp only at hSw); go_simp; (try with_reducible rfl); (try (first | (rw [if_pos (by omega)]; (try go_simp); (try with_reducible rfl)) | (rw [if_neg (by omega)]; (try go_simp); (try with_reducible rfl)))))
      try simp only [Act.put, List.setIfInBounds_toArray, List.set_cons_zero, List.set_cons_succ]
      refine wpAnyR_takeQ (i := 10) (v := ?_) (some 38) rfl rfl (by kernel_rfl) (by kernel_rfl) (by kernel_rfl) (by kernel_rfl) (fun _ _ _ h => h) (Or.inl ⟨by rfl, ?_⟩) ?_
      rotate_left
      focus (intro wS hSw; (try dsimp only at hSw); go_simp; (try with_reducible rfl); (try (first | (rw [if_pos (by omega)]; (try go_simp); (try with_reducible rfl)) | (rw [if_neg (by omega)]; (try go_simp); (try with_reducible rfl)))))
      try simp only [Act.put, List.setIfInBounds_toArray, List.set_cons_zero, List.set_cons_succ]
      refine wpAnyR_takeQ (i := 11) (v := ?_) (some 39) rfl rfl (by kernel_rfl) (by kernel_rfl) (by kernel_rfl) (by kernel_rfl) (fun _ _ _ h => h) (Or.inl ⟨by rfl, ?_⟩) ?_
      rotate_left
      focus (intro wS hSw; (try dsimp only at hSw); go_simp; (try with_reducible rfl); (try (first | (rw [if_pos (by omega)]; (try go_simp); (try with_reducible rfl)) | (rw [if_neg (by omega)]; (try go_simp); (try with_reducible rfl)))))
      try simp only [Act.put, List.setIfInBounds_toArray, List.set_cons_zero, List.set_cons_succ]
      refine wpAnyR_takeQ (i := 12) (v := ?_) (some 40) rfl rfl (by kernel_rfl) (by kernel_rfl) (by kernel_rfl) (by kernel_rfl) (fun _ _ _ h => h) (Or.inl ⟨by rfl, ?_⟩) ?_
      rotate_left
      focus (intro wS hSw; (try dsimp only at hSw); go_simp; (try with_reducible rfl); (try (first | (rw [if_pos (by omega)]; (try go_simp); (try with_reducible rfl)) | (rw [if_neg (by omega)]; (try go_simp); (try with_reducible rfl)))))
      try simp only [Act.put, List.setIfInBounds_toArray, List.set_cons_zero, List.set_cons_succ]
      refine wpAnyR_take (i := 13) (v := ?_) [14, 15, 16] (some 41) rfl rfl (by kernel_rfl) (by kernel_rfl) (by kernel_rfl) (by kernel_rfl) (by kernel_rfl) (by kernel_rfl) (by kernel_rfl) (fun _ _ _ h => h) (Or.inl ⟨by rfl, ?_⟩) hS ?_
      rotate_left
      focus (intro wS hSw; (try dsimp only at hSw); go_simp; (try with_reducible rfl); (try (first | (rw [if_pos (by omega)]; (try go_simp); (try with_reducible rfl)) | (rw [if_neg (by omega)]; (try go_simp); (try with_reducible rfl)))))
      try simp only [Act.put, List.setIfInBounds_toArray, List.set_cons_zero, List.set_cons_succ]
      refine wpAnyR_takeQ (i := 14) (v := ?_) (some 42) rfl rfl (by kernel_rfl) (by kernel_rfl) (by kernel_rfl) (by kernel_rfl) (fun _ _ _ h => h) (Or.inl ⟨by rfl, ?_⟩) ?_
      rotate_left
      focus (intro wS hSw; (try dsimp only at hSw); go_simp; (try with_reducible rfl); (try (first | (rw [if_pos (by omega)]; (try go_simp); (try with_reducible rfl)) | (rw [if_neg (by omega)]; (try go_simp); (try with_reducible rfl)))))
      try simp only [Act.put, List.setIfInBounds_toArray, List.set_cons_zero, List.set_cons_succ]
      try rw [hw]
      refine wpAnyR_n1 (i := 15) rfl (by kernel_rfl) ?_
      intro K' hK
      rw [if_pos (by rfl)]
      simp only [List.getElem_toArray, List.getElem_cons_succ, List.getElem_cons_zero]
      go_wp2_with fail
      refine (in_val (w := wr.drew) (l := ints LK) (ints_len LK).symm (by rw [ints_len]; omega) HRK.out _ (by omega) (by omega) true (by rw [HINX.out, hbb])).mono ?_
      rintro e wb ⟨rfl, gb⟩
      go_wp2_with fail
      have q0 := (gb.cellEq _ _ hgw).trans y0
      have q1 := (gb.cellEq _ _ hgw).trans y1
      have qf := (gb.frozenEq _ _ hgw).trans yf1
      have hgwb : g < wb.heap.size := Nat.lt_of_lt_of_le hgw gb.size
      have gb' : Grew wr wb := (Grew.refl wr).drew.trans gb
      have hownb := HOWN.out.grew gb'
      have htb := HT.out.andGrew gb'
      refine hK.out _ _ (.inr (fun _ => ⟨q0, q1⟩)) ?_
      clear hK hS
      refine wpAnyR_takeQ (i := 16) (v := ?_) (some 44) rfl rfl (by kernel_rfl) (by kernel_rfl) (by kernel_rfl) (by kernel_rfl) (fun _ _ _ h => h) (Or.inl ⟨by rfl, ?_⟩) ?_
      rotate_left
      focus (intro wS hSw; (try dsimp only at hSw); go_simp; (try with_reducible rfl); (try (first | (rw [if_pos (by omega)]; (try go_simp); (try with_reducible rfl)) | (rw [if_neg (by omega)]; (try go_simp); (try with_reducible rfl)))))
      try simp only [Act.put, List.setIfInBounds_toArray, List.set_cons_zero, List.set_cons_succ]
      refine wpAnyR_done (by kernel_rfl) ?_ _
      clear y0 y1 yf1
      have HBB := Lib.hid hbb
      have h128 : xf + xc + k < 128 := memS_lt _ _ hbb
      have HSU := Lib.hid (HSUC.out h128)
      clear hbb HSUC
      go_wp2_with fail
      refine wp_region_R [] (fun w' : World => w'.cell? ⟨g, I.length * 2, none⟩ = some (.int .i64 (xf : Int)) ∧ w'.cell? ⟨g, I.length * 2 + 1, none⟩ = some (.int .i64 ((xc : Int) + (k : Int)))) (by kernel_rfl) ?_
      have hS := (show (fun w' : World => w'.cell? ⟨g, I.length * 2, none⟩ = some (.int .i64 (xf : Int)) ∧ w'.cell? ⟨g, I.length * 2 + 1, none⟩ = some (.int .i64 ((xc : Int) + (k : Int)))) wb.drew from ⟨q0, q1⟩)
      refine wpAnyR_takeQ (i := 0) (v := ?_) (some 45) rfl rfl (by kernel_rfl) (by kernel_rfl) (by kernel_rfl) (by kernel_rfl) (fun _ _ _ h => h) (Or.inl ⟨by rfl, ?_⟩) ?_
      rotate_left
      focus (intro wS hSw; (try dsimp only at hSw); go_simp; (try with_reducible rfl); (try (first | (rw [if_pos (by omega)]; (try go_simp); (try with_reducible rfl)) | (rw [if_neg (by omega)]; (try go_simp); (try with_reducible rfl)))))
      try simp only [Act.put, List.setIfInBounds_toArray, List.set_cons_zero, List.set_cons_succ]
      refine wpAnyR_takeQ (i := 1) (v := ?_) (some 46) rfl rfl (by kernel_rfl) (by kernel_rfl) (by kernel_rfl) (by kernel_rfl) (fun _ _ _ h => h) (Or.inl ⟨by rfl, ?_⟩) ?_
      rotate_left
      focus (intro wS hSw; (try dsimp only at hSw); go_simp; (try with_reducible rfl); (try (first | (rw [if_pos (by omega)]; (try go_simp); (try with_reducible rfl)) | (rw [if_neg (by omega)]; (try go_simp); (try with_reducible rfl)))))
      try simp only [Act.put, List.setIfInBounds_toArray, List.set_cons_zero, List.set_cons_succ]
      refine wpAnyR_takeQ (i := 2) (v := ?_) (some 47) rfl rfl (by kernel_rfl) (by kernel_rfl) (by kernel_rfl) (by kernel_rfl) (fun _ _ _ h => h) (Or.inl ⟨by rfl, ?_⟩) ?_
      rotate_left
      focus (intro wS hSw; (try dsimp only at hSw); go_simp; (try with_reducible rfl); (try (first | (rw [if_pos (by omega)]; (try go_simp); (try with_reducible rfl)) | (rw [if_neg (by omega)]; (try go_simp); (try with_reducible rfl)))))
      try simp only [Act.put, List.setIfInBounds_toArray, List.set_cons_zero, List.set_cons_succ]
      refine wpAnyR_takeQ (i := 3) (v := ?_) (some 48) rfl rfl (by kernel_rfl) (by kernel_rfl) (by kernel_rfl) (by kernel_rfl) (fun _ _ _ h => h) (Or.inl ⟨by rfl, ?_⟩) ?_
      rotate_left
      focus (intro wS hSw; (try dsimp only at hSw); go_simp; (try with_reducible rfl); (try (first | (rw [if_pos (by omega)]; (try go_simp); (try with_reducible rfl)) | (rw [if_neg (by omega)]; (try go_simp); (try with_reducible rfl)))))
      try simp only [Act.put, List.setIfInBounds_toArray, List.set_cons_zero, List.set_cons_succ]
      refine wpAnyR_takeQ (i := 4) (v := ?_) (some 49) rfl rfl (by kernel_rfl) (by kernel_rfl) (by kernel_rfl) (by kernel_rfl) (fun _ _ _ h => h) (Or.inl ⟨by rfl, ?_⟩) ?_
      rotate_left
      focus (intro wS hSw; (try dsimp only at hSw); go_simp; (try with_reducible rfl); (try (first | (rw [if_pos (by omega)]; (try go_simp); (try with_reducible rfl)) | (rw [if_neg (by omega)]; (try go_simp); (try with_reducible rfl)))))
      try simp only [Act.put, List.setIfInBounds_toArray, List.set_cons_zero, List.set_cons_succ]
      refine wpAnyR_take (i := 5) (v := ?_) [11, 12, 13, 14, 15] (some 50) rfl rfl (by kernel_rfl) (by kernel_rfl) (by kernel_rfl) (by kernel_rfl) (by kernel_rfl) (by kernel_rfl) (by kernel_rfl) (fun _ _ _ h => h) (Or.inl ⟨by rfl, ?_⟩) hS ?_
      rotate_left
      focus (intro wS hSw; (try dsimp only at hSw); go_simp; (try with_reducible rfl); (try (first | (rw [if_pos (by omega)]; (try go_simp); (try with_reducible rfl)) | (rw [if_neg (by omega)]; (try go_simp); (try with_reducible rfl)))))
      try simp only [Act.put, List.setIfInBounds_toArray, List.set_cons_zero, List.set_cons_succ]
      refine wpAnyR_takeQ (i := 6) (v := ?_) (some 51) rfl rfl (by kernel_rfl) (by kernel_rfl) (by kernel_rfl) (by kernel_rfl) (fun _ _ _ h => h) (Or.inl ⟨by rfl, ?_⟩) ?_
      rotate_left
      focus (intro wS hSw; (try dsimp only at hSw); go_simp; (try with_reducible rfl); (try (first | (rw [if_pos (by omega)]; (try go_simp); (try with_reducible rfl)) | (rw [if_neg (by omega)]; (try go_simp); (try with_reducible rfl)))))
      try simp only [Act.put, List.setIfInBounds_toArray, List.set_cons_zero, List.set_cons_succ]
      refine wpAnyR_takeQ (i := 7) (v := ?_) (some 52) rfl rfl (by kernel_rfl) (by kernel_rfl) (by kernel_rfl) (by kernel_rfl) (fun _ _ _ h => h) (Or.inl ⟨by rfl, ?_⟩) ?_
      rotate_left
      focus (intro wS hSw; (try dsimp only at hSw); go_simp; (try with_reducible rfl); (try (first | (rw [if_pos (by omega)]; (try go_simp); (try with_reducible rfl)) | (rw [if_neg (by omega)]; (try go_simp); (try with_reducible rfl)))))
      try simp only [Act.put, List.setIfInBounds_toArray, List.set_cons_zero, List.set_cons_succ]
      refine wpAnyR_takeQ (i := 8) (v := ?_) (some 53) rfl rfl (by kernel_rfl) (by kernel_rfl) (by kernel_rfl) (by kernel_rfl) (fun _ _ _ h => h) (Or.inl ⟨by rfl, ?_⟩) ?_
      rotate_left
      focus (intro wS hSw; (try dsimp only at hSw); go_simp; (try with_reducible rfl); (try (first | (rw [if_pos (by omega)]; (try go_simp); (try with_reducible rfl)) | (rw [if_neg (by omega)]; (try go_simp); (try with_reducible rfl)))))
      try simp only [Act.put, List.setIfInBounds_toArray, List.set_cons_zero, List.set_cons_succ]
      refine wpAnyR_takeQ (i := 9) (v := ?_) (some 54) rfl rfl (by kernel_rfl) (by kernel_rfl) (by kernel_rfl) (by kernel_rfl) (fun _ _ _ h => h) (Or.inl ⟨by rfl, ?_⟩) ?_
      rotate_left
      focus (intro wS hSw; (try dsimp only at hSw); go_simp; (try with_reducible rfl); (try (first | (rw [if_pos (by omega)]; (try go_simp); (try with_reducible rfl)) | (rw [if_neg (by omega)]; (try go_simp); (try with_reducible rfl)))))
      try simp only [Act.put, List.setIfInBounds_toArray, List.set_cons_zero, List.set_cons_succ]
      refine wpAnyR_take (i := 10) (v := ?_) [11, 12, 13, 14, 15] (some 55) rfl rfl (by kernel_rfl) (by kernel_rfl) (by kernel_rfl) (by kernel_rfl) (by kernel_rfl) (by kernel_rfl) (by kernel_rfl) (fun _ _ _ h => h) (Or.inl ⟨by rfl, ?_⟩) hS ?_
      rotate_left
      focus (intro wS hSw; (try dsimp only at hSw); go_simp; (try with_reducible rfl); (try (first | (rw [if_pos (by omega)]; (try go_simp); (try with_reducible rfl)) | (rw [if_neg (by omega)]; (try go_simp); (try with_reducible rfl)))))
      try simp only [Act.put, List.setIfInBounds_toArray, List.set_cons_zero, List.set_cons_succ]
      refine wpAnyR_takeQ (i := 11) (v := ?_) (some 56) rfl rfl (by kernel_rfl) (by kernel_rfl) (by kernel_rfl) (by kernel_rfl) (fun _ _ _ h => h) (Or.inl ⟨by rfl, ?_⟩) ?_
      rotate_left
      focus (intro wS hSw; (try dsimp only at hSw); go_simp; (try with_reducible rfl); (try (first | (rw [if_pos (by omega)]; (try go_simp); (try with_reducible rfl)) | (rw [if_neg (by omega)]; (try go_simp); (try with_reducible rfl)))))
      try simp only [Act.put, List.setIfInBounds_toArray, List.set_cons_zero, List.set_cons_succ]
      refine wpAnyR_takeQ (i := 12) (v := ?_) (some 57) rfl rfl (by kernel_rfl) (by kernel_rfl) (by kernel_rfl) (by kernel_rfl) (fun _ _ _ h => h) (Or.inl ⟨by rfl, ?_⟩) ?_
      rotate_left
      focus (intro wS hSw; (try dsimp only at hSw); go_simp; (try with_reducible rfl); (try (first | (rw [if_pos (by omega)]; (try go_simp); (try with_reducible rfl)) | (rw [if_neg (by omega)]; (try go_simp); (try with_reducible rfl)))))
      try simp only [Act.put, List.setIfInBounds_toArray, List.set_cons_zero, List.set_cons_succ]
      try rw [hw]
      refine wpAnyR_n1 (i := 13) rfl (by kernel_rfl) ?_
      intro K' hK
      rw [if_pos (by rfl)]
      simp only [List.getElem_toArray, List.getElem_cons_succ, List.getElem_cons_zero]
      go_wp2_with fail
      have gal := (Grew.refl wb).drew.alloc (.cells #[.int .i64 ((xf : Int) + ((xc : Int) + (k : Int))), .int .i64 1] 25)
      have hwq : wb.drew.heap.size = wb.heap.size := rfl
      have r8 : RunsAt (wb.drew.alloc (.cells #[.int .i64 ((xf : Int) + ((xc : Int) + (k : Int))), .int .i64 1] 25)) (wb.drew.alloc (.cells #[.int .i64 ((xf : Int) + ((xc : Int) + (k : Int))), .int .i64 1] 25)).heap.size (some ⟨wb.heap.size, 0, none⟩) [(((xf + xc + k : Nat) : Int), (1 : Int))] := by
        rw [show (xf : Int) + ((xc : Int) + (k : Int)) = ((xf + xc + k : Nat) : Int) by omega]
        exact blk_runs (Blk.new wb.drew _ _ rfl) rfl (by intro r hr; rw [List.mem_singleton.1 hr]; unfold okRun; simp only; omega)
      have rK := RunsAt.hold (HRK.out.hold gb') gal
      have hM := rminus_any AK (some ⟨wb.heap.size, 0, none⟩) cK 1 (ints LK) [(((xf + xc + k : Nat) : Int), (1 : Int))] _ _ (Nat.le_refl _) (by rw [ints_len]; omega) (by simp) rK r8
      rw [ints_len, HSU.out] at hM
      have HMI := Lib.hid hM
      have c0 := (gal.cellEq _ _ hgwb).trans q0
      have c1 := (gal.cellEq _ _ hgwb).trans q1
      have cf := (gal.frozenEq _ _ hgwb).trans qf
      have hgal := gal.size
      refine hK.out _ _ (.inr (fun _ => ⟨c0, c1⟩)) ?_
      clear hK hS hM
      refine wpAnyR_n1 (i := 14) rfl (by kernel_rfl) ?_
      intro K' hK
      rw [if_pos (by rfl)]
      simp only [List.getElem_toArray, List.getElem_cons_succ, List.getElem_cons_zero]
      go_wp2_with fail
      refine HMI.out.mono ?_
      rintro e wm ⟨v7, rfl, hown7, gm⟩
      obtain ⟨A7, c7, hv7, hr7, _, _, hA7⟩ := own_runs2 hown7 (fun r hr => Nat.le_trans (normS_bd _ r hr) (by omega))
      subst hv7
      have hgw7 : g < (wb.drew.alloc (.cells #[.int .i64 ((xf : Int) + ((xc : Int) + (k : Int))), .int .i64 1] 25)).heap.size := Nat.lt_of_lt_of_le hgwb gal.size
      have d0 := (gm.cellEq _ _ hgw7).trans c0
      have d1 := (gm.cellEq _ _ hgw7).trans c1
      have df := (gm.frozenEq _ _ hgw7).trans cf
      have hgwm : g < wm.heap.size := Nat.lt_of_lt_of_le hgw7 gm.size
      have hA8 : ∀ b off, A7 = some ⟨b, off, none⟩ → ¬ b = g := fun b off e => by have := (hA7 b off e).1; omega
      have hownm := (hownb.grew gal).grew gm
      have htm := (htb.andGrew gal).andGrew gm
      go_wp2_with fail
      refine hK.out _ _ (.inr (fun _ => ⟨d0, d1⟩)) ?_
      clear hK
      have hS := (show (fun w' : World => w'.cell? ⟨g, I.length * 2, none⟩ = some (.int .i64 (xf : Int)) ∧ w'.cell? ⟨g, I.length * 2 + 1, none⟩ = some (.int .i64 ((xc : Int) + (k : Int)))) wm from ⟨d0, d1⟩)
      refine wpAnyR_takeQ (i := 15) (v := ?_) (some 9) rfl rfl (by kernel_rfl) (by kernel_rfl) (by kernel_rfl) (by kernel_rfl) (fun _ _ _ h => h) (Or.inl ⟨by rfl, ?_⟩) ?_
      rotate_left
      focus (intro wS hSw; (try dsimp only at hSw); go_simp; (try with_reducible rfl); (try (first | (rw [if_pos (by omega)]; (try go_simp); (try with_reducible rfl)) | (rw [if_neg (by omega)]; (try go_simp); (try with_reducible rfl)))))
      try simp only [Act.put, List.setIfInBounds_toArray, List.set_cons_zero, List.set_cons_succ]
      refine wpAnyR_done (by kernel_rfl) ?_ _
      clear q0 q1 qf c0 c1 cf hS hown7
      have HR7 := Lib.hid hr7
      have HA8 := Lib.hid hA8
      clear hr7 hA8 hA7
      have hsetown := hownm.set_ (i := 1) (o := I.length * 2 + 1) HROW.out (by omega) rfl (.int .i64 ((xc + (k + 1) : Nat) : Int))
      rw [rows_set', show (I ++ [(xf, xc + k)]).set I.length (xf, xc + (k + 1)) = I ++ [(xf, xc + (k + 1))] from by rw [List.set_append_right _ _ (Nat.le_refl _)]; simp] at hsetown
      have HST := Lib.hid hsetown
      have hq1' : (xc : Int) + (k : Int) + 1 = ((xc + (k + 1) : Nat) : Int) := by omega
      clear hsetown
      go_wp2_with fail
      go_roundg (nn - (k + 1))
      case measure => rw [HGK.out]; omega
      case rel => exact ⟨k + 1, by omega, by omega, by go_num, fun j hj => by (by_cases hjk : j = k); (· subst hjk; exact HBB.out); (· exact HALL.out j (by omega)), by have := HST.out; (first | exact this | (rw [hq1'] at *; exact this)), ⟨A7, c7, rfl, RunsAt.wide (HR7.out.turned (Nat.le_refl _) ((Turned.refl (fun i => i = g) wm).setCell (p := ⟨g, I.length * 2 + 1, none⟩) (fun _ => rfl) _) HA8.out) (by simp [World.setCell]), HA8.out⟩, by have := htm; (repeat' first | (with_reducible exact Turned.refl _ _) | (with_reducible assumption) | (with_reducible refine Turned.alloc ?_ _) | (with_reducible refine Turned.drew ?_) | (with_reducible refine Turned.drewN ?_ _) | (with_reducible refine Turned.setRow ?_ (by first | (simp; done) | (simp; omega) | omega) _) | (with_reducible refine Turned.setCell ?_ (by first | (simp; done) | (simp; omega) | omega) _) | ((with_reducible apply Turned.andGrew); rotate_left; (with_reducible assumption)) | ((with_reducible apply Turned.trans); rotate_left; (with_reducible assumption)) | fail)⟩
    | false =>
      go_wp2_with fail
      refine wp_region_R [] (fun w' : World => w'.cell? ⟨g, I.length * 2, none⟩ = some (.int .i64 (xf : Int)) ∧ w'.cell? ⟨g, I.length * 2 + 1, none⟩ = some (.int .i64 ((xc : Int) + (k : Int)))) (by kernel_rfl) ?_
      have hS := (show (fun w' : World => w'.cell? ⟨g, I.length * 2, none⟩ = some (.int .i64 (xf : Int)) ∧ w'.cell? ⟨g, I.length * 2 + 1, none⟩ = some (.int .i64 ((xc : Int) + (k : Int)))) wr.drew from ⟨y0, y1⟩)
      refine wpAnyR_takeQ (i := 0) (v := ?_) (some 28) rfl rfl (by kernel_rfl) (by kernel_rfl) (by kernel_rfl) (by kernel_rfl) (fun _ _ _ h => h) (Or.inl ⟨by rfl, ?_⟩) ?_
      rotate_left
      focus (intro wS hSw; (try dsimp only at hSw); go_simp; (try with_reducible rfl); (try (first | (rw [if_pos (by omega)]; (try go_simp); (try with_reducible rfl)) | (rw [if_neg (by omega)]; (try go_simp); (try with_reducible rfl)))))
      try simp only [Act.put, List.setIfInBounds_toArray, List.set_cons_zero, List.set_cons_succ]
      refine wpAnyR_takeQ (i := 1) (v := ?_) (some 29) rfl rfl (by kernel_rfl) (by kernel_rfl) (by kernel_rfl) (by kernel_rfl) (fun _ _ _ h => h) (Or.inl ⟨by rfl, ?_⟩) ?_
      rotate_left
      focus (intro wS hSw; (try dsimp only at hSw); go_simp; (try with_reducible rfl); (try (first | (rw [if_pos (by omega)]; (try go_simp); (try with_reducible rfl)) | (rw [if_neg (by omega)]; (try go_simp); (try with_reducible rfl)))))
      try simp only [Act.put, List.setIfInBounds_toArray, List.set_cons_zero, List.set_cons_succ]
      refine wpAnyR_takeQ (i := 2) (v := ?_) (some 30) rfl rfl (by kernel_rfl) (by kernel_rfl) (by kernel_rfl) (by kernel_rfl) (fun _ _ _ h => h) (Or.inl ⟨by rfl, ?_⟩) ?_
      rotate_left
      focus (intro wS hSw; (try dsimp only at hSw); go_simp; (try with_reducible rfl); (try (first | (rw [if_pos (by omega)]; (try go_simp); (try with_reducible rfl)) | (rw [if_neg (by omega)]; (try go_simp); (try with_reducible rfl)))))
      try simp only [Act.put, List.setIfInBounds_toArray, List.set_cons_zero, List.set_cons_succ]
      try rw [show decide ((m : Int) > 0) = true from decide_eq_true (by omega)]
      refine wpAnyR_takeQ (i := 3) (v := ?_) (some 31) rfl rfl (by kernel_rfl) (by kernel_rfl) (by kernel_rfl) (by kernel_rfl) (fun _ _ _ h => h) (Or.inl ⟨by rfl, ?_⟩) ?_
      rotate_left
      focus (intro wS hSw; (try dsimp only at hSw); go_simp; (try with_reducible rfl); (try (first | (rw [if_pos (by omega)]; (try go_simp); (try with_reducible rfl)) | (rw [if_neg (by omega)]; (try go_simp); (try with_reducible rfl)))))
      try simp only [Act.put, List.setIfInBounds_toArray, List.set_cons_zero, List.set_cons_succ]
      refine wpAnyR_takeQ (i := 4) (v := ?_) (some 32) rfl rfl (by kernel_rfl) (by kernel_rfl) (by kernel_rfl) (by kernel_rfl) (fun _ _ _ h => h) (Or.inl ⟨by rfl, ?_⟩) ?_
      rotate_left
      focus (intro wS hSw; (try dsimp only at hSw); go_simp; (try with_reducible rfl); (try (first | (rw [if_pos (by omega)]; (try go_simp); (try with_reducible rfl)) | (rw [if_neg (by omega)]; (try go_simp); (try with_reducible rfl)))))
      try simp only [Act.put, List.setIfInBounds_toArray, List.set_cons_zero, List.set_cons_succ]
      refine wpAnyR_takeQ (i := 5) (v := ?_) (some 33) rfl rfl (by kernel_rfl) (by kernel_rfl) (by kernel_rfl) (by kernel_rfl) (fun _ _ _ h => h) (Or.inl ⟨by rfl, ?_⟩) ?_
      rotate_left
      focus (intro wS hSw; (try dsimp only at hSw); go_simp; (try with_reducible rfl); (try (first | (rw [if_pos (by omega)]; (try go_simp); (try with_reducible rfl)) | (rw [if_neg (by omega)]; (try go_simp); (try with_reducible rfl)))))
      try simp only [Act.put, List.setIfInBounds_toArray, List.set_cons_zero, List.set_cons_succ]
      refine wpAnyR_takeQ (i := 6) (v := ?_) (some 34) rfl rfl (by kernel_rfl) (by kernel_rfl) (by kernel_rfl) (by kernel_rfl) (fun _ _ _ h => h) (Or.inl ⟨by rfl, ?_⟩) ?_
      rotate_left
      focus (intro wS hSw; (try dsimp only at hSw); go_simp; (try with_reducible rfl); (try (first | (rw [if_pos (by omega)]; (try go_simp); (try with_reducible rfl)) | (rw [if_neg (by omega)]; (try go_simp); (try with_reducible rfl)))))
      try simp only [Act.put, List.setIfInBounds_toArray, List.set_cons_zero, List.set_cons_succ]
      refine wpAnyR_takeQ (i := 7) (v := ?_) (some 35) rfl rfl (by kernel_rfl) (by kernel_rfl) (by kernel_rfl) (by kernel_rfl) (fun _ _ _ h => h) (Or.inl ⟨by rfl, ?_⟩) ?_
      rotate_left
      focus (intro wS hSw; (try dsimp only at hSw); go_simp; (try with_reducible rfl); (try (first | (rw [if_pos (by omega)]; (try go_simp); (try with_reducible rfl)) | (rw [if_neg (by omega)]; (try go_simp); (try with_reducible rfl)))))
      try simp only [Act.put, List.setIfInBounds_toArray, List.set_cons_zero, List.set_cons_succ]
      refine wpAnyR_take (i := 8) (v := ?_) [14, 15, 16] (some 36) rfl rfl (by kernel_rfl) (by kernel_rfl) (by kernel_rfl) (by kernel_rfl) (by kernel_rfl) (by kernel_rfl) (by kernel_rfl) (fun _ _ _ h => h) (Or.inl ⟨by rfl, ?_⟩) hS ?_
      rotate_left
      focus (intro wS hSw; (try dsimp only at hSw); go_simp; (try with_reducible rfl); (try (first | (rw [if_pos (by omega)]; (try go_simp); (try with_reducible rfl)) | (rw [if_neg (by omega)]; (try go_simp); (try with_reducible rfl)))))
      try simp only [Act.put, List.setIfInBounds_toArray, List.set_cons_zero, List.set_cons_succ]
      refine wpAnyR_takeQ (i := 9) (v := ?_) (some 37) rfl rfl (by kernel_rfl) (by kernel_rfl) (by kernel_rfl) (by kernel_rfl) (fun _ _ _ h => h) (Or.inl ⟨by rfl, ?_⟩) ?_
      rotate_left
      focus (intro wS hSw; (try dsimp only at hSw); go_simp; (try with_reducible rfl); (try (first | (rw [if_pos (by omega)]; (try go_simp); (try with_reducible rfl)) | (rw [if_neg (by omega)]; (try go_simp); (try with_reducible rfl)))))
      try simp only [Act.put, List.setIfInBounds_toArray, List.set_cons_zero, List.set_cons_succ]
      refine wpAnyR_takeQ (i := 10) (v := ?_) (some 38) rfl rfl (by kernel_rfl) (by kernel_rfl) (by kernel_rfl) (by kernel_rfl) (fun _ _ _ h => h) (Or.inl ⟨by rfl, ?_⟩) ?_
      rotate_left
      focus (intro wS hSw; (try dsimp only at hSw); go_simp; (try with_reducible rfl); (try (first | (rw [if_pos (by omega)]; (try go_simp); (try with_reducible rfl)) | (rw [if_neg (by omega)]; (try go_simp); (try with_reducible rfl)))))
      try simp only [Act.put, List.setIfInBounds_toArray, List.set_cons_zero, List.set_cons_succ]
      refine wpAnyR_takeQ (i := 11) (v := ?_) (some 39) rfl rfl (by kernel_rfl) (by kernel_rfl) (by kernel_rfl) (by kernel_rfl) (fun _ _ _ h => h) (Or.inl ⟨by rfl, ?_⟩) ?_
      rotate_left
      focus (intro wS hSw; (try dsimp only at hSw); go_simp; (try with_reducible rfl); (try (first | (rw [if_pos (by omega)]; (try go_simp); (try with_reducible rfl)) | (rw [if_neg (by omega)]; (try go_simp); (try with_reducible rfl)))))
      try simp only [Act.put, List.setIfInBounds_toArray, List.set_cons_zero, List.set_cons_succ]
      refine wpAnyR_takeQ (i := 12) (v := ?_) (some 40) rfl rfl (by kernel_rfl) (by kernel_rfl) (by kernel_rfl) (by kernel_rfl) (fun _ _ _ h => h) (Or.inl ⟨by rfl, ?_⟩) ?_
      rotate_left
      focus (intro wS hSw; (try dsimp only at hSw); go_simp; (try with_reducible rfl); (try (first | (rw [if_pos (by omega)]; (try go_simp); (try with_reducible rfl)) | (rw [if_neg (by omega)]; (try go_simp); (try with_reducible rfl)))))
      try simp only [Act.put, List.setIfInBounds_toArray, List.set_cons_zero, List.set_cons_succ]
      refine wpAnyR_take (i := 13) (v := ?_) [14, 15, 16] (some 41) rfl rfl (by kernel_rfl) (by kernel_rfl) (by kernel_rfl) (by kernel_rfl) (by kernel_rfl) (by kernel_rfl) (by kernel_rfl) (fun _ _ _ h => h) (Or.inl ⟨by rfl, ?_⟩) hS ?_
      rotate_left
      focus (intro wS hSw; (try dsimp only at hSw); go_simp; (try with_reducible rfl); (try (first | (rw [if_pos (by omega)]; (try go_simp); (try with_reducible rfl)) | (rw [if_neg (by omega)]; (try go_simp); (try with_reducible rfl)))))
      try simp only [Act.put, List.setIfInBounds_toArray, List.set_cons_zero, List.set_cons_succ]
      refine wpAnyR_takeQ (i := 14) (v := ?_) (some 42) rfl rfl (by kernel_rfl) (by kernel_rfl) (by kernel_rfl) (by kernel_rfl) (fun _ _ _ h => h) (Or.inl ⟨by rfl, ?_⟩) ?_
      rotate_left
      focus (intro wS hSw; (try dsimp only at hSw); go_simp; (try with_reducible rfl); (try (first | (rw [if_pos (by omega)]; (try go_simp); (try with_reducible rfl)) | (rw [if_neg (by omega)]; (try go_simp); (try with_reducible rfl)))))
      try simp only [Act.put, List.setIfInBounds_toArray, List.set_cons_zero, List.set_cons_succ]
      try rw [hw]
      refine wpAnyR_n1 (i := 15) rfl (by kernel_rfl) ?_
      intro K' hK
      rw [if_pos (by rfl)]
      simp only [List.getElem_toArray, List.getElem_cons_succ, List.getElem_cons_zero]
      go_wp2_with fail
      refine (in_val (w := wr.drew) (l := ints LK) (ints_len LK).symm (by rw [ints_len]; omega) HRK.out _ (by omega) (by omega) false (by rw [HINX.out, hbb])).mono ?_
      rintro e wb ⟨rfl, gb⟩
      go_wp2_with fail
      have q0 := (gb.cellEq _ _ hgw).trans y0
      have q1 := (gb.cellEq _ _ hgw).trans y1
      have qf := (gb.frozenEq _ _ hgw).trans yf1
      have hgwb : g < wb.heap.size := Nat.lt_of_lt_of_le hgw gb.size
      have gb' : Grew wr wb := (Grew.refl wr).drew.trans gb
      have hownb := HOWN.out.grew gb'
      have htb := HT.out.andGrew gb'
      refine hK.out _ _ (.inr (fun _ => ⟨q0, q1⟩)) ?_
      clear hK hS
      refine wpAnyR_takeQ (i := 16) (v := ?_) (some 44) rfl rfl (by kernel_rfl) (by kernel_rfl) (by kernel_rfl) (by kernel_rfl) (fun _ _ _ h => h) (Or.inl ⟨by rfl, ?_⟩) ?_
      rotate_left
      focus (intro wS hSw; (try dsimp only at hSw); go_simp; (try with_reducible rfl); (try (first | (rw [if_pos (by omega)]; (try go_simp); (try with_reducible rfl)) | (rw [if_neg (by omega)]; (try go_simp); (try with_reducible rfl)))))
      try simp only [Act.put, List.setIfInBounds_toArray, List.set_cons_zero, List.set_cons_succ]
      refine wpAnyR_done (by kernel_rfl) ?_ _
      clear y0 y1 yf1
      have hkn : k < nn := by omega
      have HEK := Lib.hid (HEQ.out k hk HALL.out (.inr hbb))
      have hGb : Grew w wb := hG.turn htb (fun i hi => by omega)
      have hb0 : ((m : Int) == 0) = false := beq_eq_false_iff_ne.2 (by omega)
      clear hbb q0 q1 qf
      have hA0 : extA I (xf, xc) l2 nn k = allocS (memS (ints LK)) (m : Int) (16 - ((I.length : Int) + 1)) := by unfold extA; rw [HF.out, hm, ← HXK.out]
      have H14 := Lib.hid (show (extA I (xf, xc) l2 nn k).2 ≠ 0 → extS l1 l2 (nn : Int) = ([], 14) from fun h => by
        rw [HEK.out]; unfold extG; rw [if_neg (by omega)]
        by_cases hmo : 16 - ((I.length : Int) + 1) < 1
        · rw [if_pos hmo]
        · rw [if_neg hmo, if_pos h]
          rcases alloc_ok (ints LK) (m : Int) (16 - ((I.length : Int) + 1)) (by omega) (by omega) with ⟨x, hx, _⟩ | ⟨hx, _⟩
          · rw [hA0, hx] at h; exact absurd rfl h
          · rw [hA0, hx])
      have H0 := Lib.hid (show (extA I (xf, xc) l2 nn k).2 = 0 → extS l1 l2 (nn : Int) = (joinS (ints (I ++ [(xf, xc + k)] ++ (extA I (xf, xc) l2 nn k).1)), 0) from fun h => by
        by_cases hmo : 16 - ((I.length : Int) + 1) < 1
        · rw [hA0] at h; unfold allocS at h; rw [if_pos (.inr hmo)] at h; exact absurd h (by decide)
        · rw [HEK.out]; unfold extG; rw [if_neg (by omega), if_neg hmo, if_neg (fun h' => h' h)]; rfl)
      have hbL : ∀ r ∈ I ++ [(xf, xc + k)], r.1 + r.2 ≤ 128 := HBD.out k HALL.out
      have hab := alloc_bd (memS (ints LK)) (m : Int) (16 - ((I.length : Int) + 1))
      have hal := alloc_len (memS (ints LK)) (m : Int) (16 - ((I.length : Int) + 1))
      rw [← hA0] at hab hal
      have hAL := ralloc_any AK cK (ints LK) wb wb.heap.size (Nat.le_refl _) (by rw [ints_len]; omega) (HRK.out.hold gb') (m : Int) (by omega) (by omega) (16 - ((I.length : Int) + 1))
      rw [← hA0, ints_len] at hAL
      have HALX := Lib.hid hAL
      have HAB := Lib.hid hab
      clear hAL hA0 hab
      go_wp2_with fail
      refine HALX.out.mono ?_
      rintro e wd ⟨v4, rfl, hown4, gd⟩
      have hownd := hownb.grew gd
      have hGd := hGb.trans gd
      have hgsz := hGd.size
      obtain ⟨A4, c4, hv4, _, _, hl4⟩ := hown4.listAt
      rw [List.length_map] at hv4
      subst hv4
      clear HALX gd
      generalize extA I (xf, xc) l2 nn k = a at *
      obtain ⟨al, ae⟩ := a
      simp only at hal HAB hl4
      by_cases hae : ae = 0
      rotate_left
      · have HE := Lib.hid (H14.out hae)
        have hne : (ae != 0) = true := bne_iff_ne.2 hae
        have HGX := Lib.hid hGd
        clear hGd hae
        go_wp2_with fail
        go_returns
        rw [HE.out]
        exact ⟨_, rfl, OwnL.nil _ _ _ _, HGX.out⟩
      · have HE := Lib.hid (H0.out hae)
        subst hae
        have hLl : ((I ++ [(xf, xc + k)]).map rowN).length = I.length + 1 := by simp
        go_wp2_with (at_builtin; refine wpList_pushAll (by rfl) _ _ 22 rfl w.heap.size 25 2 16 _ Try.underlying22 info_run rfl (by decide) _ ((I ++ [(xf, xc + k)]).map rowN) (al.map rowN) (by rfl) hownd _ al.length _ (by rfl) (by rw [List.length_map]) (rowN_len al) hl4 (rowN_one al) (by rw [hLl]; omega) (by rw [hLl]; omega) hgsz ?_; intro v5 w5 hown5 hgr5 hat5)
        have g5 : Grew w w5 := Grew.own hGd hgr5 hownd.row_ge (Nat.le_refl _)
        rw [← List.map_append] at hown5
        have hb5 : ∀ r ∈ I ++ [(xf, xc + k)] ++ al, r.1 + r.2 ≤ 128 := fun r hr => (List.mem_append.1 hr).elim (hbL r) (HAB.out r)
        obtain ⟨A6, c6, hv6, hr6, _, _, _⟩ := own_runs2 hown5 (fun r hr => Nat.le_trans (hb5 r hr) (by omega))
        subst hv6
        have hjn := refjoin_any A6 c6 (ints (I ++ [(xf, xc + k)] ++ al)) w5 w5.heap.size (Nat.le_refl _) (by rw [ints_len, List.length_append, List.length_append, List.length_singleton]; omega) hr6
        rw [ints_len] at hjn
        have HJN := Lib.hid hjn
        clear hjn hgr5 hat5 hown5 hownd hGd hl4 hown4 hr6
        go_wp2_with fail
        refine HJN.out.mono ?_
        rintro e w6 ⟨v6, rfl, hown6, g6⟩
        go_wp2_with fail
        go_returns
        rw [HE.out]
        exact ⟨_, rfl, hown6.mono g5.size, g5.trans g6⟩
end
end Go.Proofs.Ytenbcjlikoajdaa
