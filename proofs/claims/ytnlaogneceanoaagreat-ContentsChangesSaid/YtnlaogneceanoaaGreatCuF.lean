/- Chapter 6: the reference's Allocate. Chapter 6: Extend. Chapter 6: the contracts by value, and awake. Chapter 6: awake. Chapter 6: Room, and SpaceWithin. Chapter 6, plain: what is allocated. Chapter 6: Release and Consolidate, on both sides. Chapter 6: Free, on both sides. Chapter 6: the reference's Free; Largest on both sides. Chapter 8: tables, plain and in memory. Chapter 8: searches among the labels of a table. -/
import Derived.Test.YtnlaogneceanoaaGreatCuB
import Derived.Test.YtnlaogneceanoaaGreatCuD
import Derived.Test.YtnlaogneceanoaaGreatCuE
namespace Go.Proofs.YtnlaogneceanoaaGreat
set_option linter.unusedVariables false
set_option linter.unusedSimpArgs false
set_option linter.unusedSectionVars false
open Go.RowKit
section
variable (A : Option Addr) (c : Nat) (l : List (Int × Int)) (w : World) (B : Nat) (hB : B ≤ w.heap.size) (hl : l.length ≤ 1000000) (hr : RunsAt w B A l) (n : Int) (n0 : -9223372036854775808 ≤ n) (n1 : n ≤ 9223372036854775807) (most : Int)
include hB hl hr n0 n1
set_option maxRecDepth 100000 in
set_option maxHeartbeats 4000000 in
theorem ralloc_any : Calls Tryz.prog 122 #[.slice A l.length c, .int .i64 n, .int .i64 most] w (AllocR w (allocS (memS l) n most)) := by
  by_cases h1 : n < 1
  · have HE := Lib.hid (show allocS (memS l) n most = ([], 1) from by unfold allocS; rw [if_pos (.inl h1)])
    go_enter Tryz.func122, Tryz.ntmps122
    go_wp2_with fail
    go_returns
    rw [HE.out]
    exact ⟨_, rfl, OwnL.nil _ _ _ _, by (repeat' first | (with_reducible exact Grew.refl _) | (with_reducible assumption) | (with_reducible refine Grew.alloc ?_ _) | (with_reducible refine Grew.drew ?_) | (with_reducible refine Grew.drewN ?_ _) | (with_reducible refine Grew.setRow ?_ (by first | (simp; done) | (simp; omega) | omega) _) | (with_reducible refine Grew.setCell ?_ (by first | (simp; done) | (simp; omega) | omega) _) | ((with_reducible apply Grew.trans); rotate_left; (with_reducible assumption)) | ((with_reducible apply Grew.turn); rotate_left; (with_reducible assumption); (focus (intro i hi; first | omega | (simp at hi; omega)))) | fail)⟩
  by_cases h2 : most < 1
  · have HE := Lib.hid (show allocS (memS l) n most = ([], 1) from by unfold allocS; rw [if_pos (.inr h2)])
    go_enter Tryz.func122, Tryz.ntmps122
    go_wp2_with fail
    go_returns
    rw [HE.out]
    exact ⟨_, rfl, OwnL.nil _ _ _ _, by (repeat' first | (with_reducible exact Grew.refl _) | (with_reducible assumption) | (with_reducible refine Grew.alloc ?_ _) | (with_reducible refine Grew.drew ?_) | (with_reducible refine Grew.drewN ?_ _) | (with_reducible refine Grew.setRow ?_ (by first | (simp; done) | (simp; omega) | omega) _) | (with_reducible refine Grew.setCell ?_ (by first | (simp; done) | (simp; omega) | omega) _) | ((with_reducible apply Grew.trans); rotate_left; (with_reducible assumption)) | ((with_reducible apply Grew.turn); rotate_left; (with_reducible assumption); (focus (intro i hi; first | omega | (simp at hi; omega)))) | fail)⟩
  obtain ⟨nn, rfl⟩ : ∃ nn : Nat, n = (nn : Int) := ⟨n.toNat, by omega⟩
  have HS := Lib.hid (show allocS (memS l) (nn : Int) most = if (bestF (nn : Int) (normS (memS l))).2 ≠ 0 then ([((bestF (nn : Int) (normS (memS l))).1, nn)], 0) else if nn - cntL (sortS (normS (memS l))) ≠ 0 ∨ most < ((takeR (sortS (normS (memS l))) nn).length : Int) then ([], 14) else (takeR (sortS (normS (memS l))) nn, 0) from by unfold allocS; rw [if_neg (fun h => h.elim h1 h2)]; rfl)
  have hB0 := rbest_any A c l w B hB hl hr (nn : Int) n0 n1
  have hbb : bestS (memS l) (nn : Int) = if (bestF (nn : Int) (normS (memS l))).2 = 0 then ((0, 0), false) else ((((bestF (nn : Int) (normS (memS l))).1 : Int), (nn : Int)), true) := by
    unfold bestS
    by_cases hz : (bestF (nn : Int) (normS (memS l))).2 = 0
    · rw [if_pos (.inr hz), if_pos hz]
    · rw [if_neg (fun h => h.elim h1 hz), if_neg hz]
  rw [hbb] at hB0
  have hbd := normS_bd (memS l)
  have hfb := bestF_bd (nn : Int) (normS (memS l)) 128 hbd
  have hfm := bestF_mem (nn : Int) (normS (memS l))
  by_cases hz : (bestF (nn : Int) (normS (memS l))).2 = 0
  rotate_left
  · rw [if_neg hz] at hB0
    have hnl : nn ≤ 128 := by
      rcases hfm with h | ⟨_, h⟩
      · rw [h] at hz; exact absurd rfl hz
      · omega
    have HE := Lib.hid (show allocS (memS l) (nn : Int) most = ([((bestF (nn : Int) (normS (memS l))).1, nn)], 0) from by rw [HS.out, if_pos hz])
    generalize bestF (nn : Int) (normS (memS l)) = bb at *
    obtain ⟨bf, bc⟩ := bb
    simp only at hB0 HE hfb
    have HB0 := Lib.hid hB0
    clear hbb hB0 HS hz hfm
    go_enter Tryz.func122, Tryz.ntmps122
    go_wp2_with fail
    refine HB0.out.mono ?_
    rintro e w1 ⟨rfl, g1⟩
    have hws := g1.size
    go_wp2_with fail
    go_returns
    rw [HE.out]
    refine ⟨_, rfl, OwnL.one (r := (bf, nn)) ?_ ?_, by (repeat' first | (with_reducible exact Grew.refl _) | (with_reducible assumption) | (with_reducible refine Grew.alloc ?_ _) | (with_reducible refine Grew.drew ?_) | (with_reducible refine Grew.drewN ?_ _) | (with_reducible refine Grew.setRow ?_ (by first | (simp; done) | (simp; omega) | omega) _) | (with_reducible refine Grew.setCell ?_ (by first | (simp; done) | (simp; omega) | omega) _) | ((with_reducible apply Grew.trans); rotate_left; (with_reducible assumption)) | ((with_reducible apply Grew.turn); rotate_left; (with_reducible assumption); (focus (intro i hi; first | omega | (simp at hi; omega)))) | fail)⟩
    · simp; omega
    · simp
  rw [if_pos hz] at hB0
  have HS2 := Lib.hid (show allocS (memS l) (nn : Int) most = if nn - cntL (sortS (normS (memS l))) ≠ 0 ∨ most < ((takeR (sortS (normS (memS l))) nn).length : Int) then ([], 14) else (takeR (sortS (normS (memS l))) nn, 0) from by rw [HS.out, if_neg (fun h => h hz)])
  have HB0 := Lib.hid hB0
  have HC := Lib.hid (fun w' (g : Grew w w') => rsorted_any A c l w' B (Nat.le_trans hB g.size) hl (hr.keep hB g))
  have hml : (sortS (normS (memS l))).length ≤ 128 := by rw [← (sortS_perm _ (normS_cnt (memS l)) (normS_asc (memS l))).length_eq]; exact normS_len _
  have hmb : ∀ r ∈ sortS (normS (memS l)), r.1 + r.2 ≤ 128 := fun r hr => hbd r ((mem_sortS _ (normS_cnt (memS l)) r).1 hr)
  generalize sortS (normS (memS l)) = M at *
  have HMB := Lib.hid hmb
  clear hbb hB0 HS hz hfm hfb hr hbd hmb
  go_enter Tryz.func122, Tryz.ntmps122
  go_wp2_with fail
  refine HB0.out.mono ?_
  rintro e w1 ⟨rfl, g1⟩
  have hws := g1.size
  go_wp2_with fail
  refine (HC.out _ (by (repeat' first | (with_reducible exact Grew.refl _) | (with_reducible assumption) | (with_reducible refine Grew.alloc ?_ _) | (with_reducible refine Grew.drew ?_) | (with_reducible refine Grew.drewN ?_ _) | (with_reducible refine Grew.setRow ?_ (by first | (simp; done) | (simp; omega) | omega) _) | (with_reducible refine Grew.setCell ?_ (by first | (simp; done) | (simp; omega) | omega) _) | ((with_reducible apply Grew.trans); rotate_left; (with_reducible assumption)) | ((with_reducible apply Grew.turn); rotate_left; (with_reducible assumption); (focus (intro i hi; first | omega | (simp at hi; omega)))) | fail))).mono ?_
  rintro e w2 ⟨v, rfl, hown, g2⟩
  have hG : Grew w w2 := by (repeat' first | (with_reducible exact Grew.refl _) | (with_reducible assumption) | (with_reducible refine Grew.alloc ?_ _) | (with_reducible refine Grew.drew ?_) | (with_reducible refine Grew.drewN ?_ _) | (with_reducible refine Grew.setRow ?_ (by first | (simp; done) | (simp; omega) | omega) _) | (with_reducible refine Grew.setCell ?_ (by first | (simp; done) | (simp; omega) | omega) _) | ((with_reducible apply Grew.trans); rotate_left; (with_reducible assumption)) | ((with_reducible apply Grew.turn); rotate_left; (with_reducible assumption); (focus (intro i hi; first | omega | (simp at hi; omega)))) | fail)
  obtain ⟨A', c', hv, hr3, _, _, _⟩ := own_runs2 hown (fun r hr => Nat.le_trans (HMB.out r hr) (by omega))
  subst hv
  have HR := Lib.hid hr3
  have hgs := hG.size
  obtain ⟨w3, hw3⟩ : ∃ w3, w3 = w2 := ⟨_, rfl⟩
  subst hw3
  clear hown HC HB0 g1 g2 hr3
  go_wp2_with fail
  go_loopg [1, 11, 12] M.length (fun gk nv ov i wr => ∃ k : Nat, k ≤ M.length ∧ gk = M.length - k ∧ i = .int .i64 k ∧ nv = .int .i64 ((nn - cntL (M.take k) : Nat) : Int) ∧ OwnL wr w3.heap.size 65 2 ov ((takeR (M.take k) nn).map rowN) ∧ Grew w3 wr)
  case atStart => exact ⟨0, by omega, by omega, rfl, by simp [cntL], OwnL.empty _ _ _ _ (Nat.le_refl _) rfl, by (repeat' first | (with_reducible exact Grew.refl _) | (with_reducible assumption) | (with_reducible refine Grew.alloc ?_ _) | (with_reducible refine Grew.drew ?_) | (with_reducible refine Grew.drewN ?_ _) | (with_reducible refine Grew.setRow ?_ (by first | (simp; done) | (simp; omega) | omega) _) | (with_reducible refine Grew.setCell ?_ (by first | (simp; done) | (simp; omega) | omega) _) | ((with_reducible apply Grew.trans); rotate_left; (with_reducible assumption)) | ((with_reducible apply Grew.turn); rotate_left; (with_reducible assumption); (focus (intro i hi; first | omega | (simp at hi; omega)))) | fail)⟩
  case round =>
    obtain ⟨k, hk, hgk, rfl, rfl, hown, hg⟩ := hrel
    have HGK := Lib.hid hgk
    clear hgk
    have htl := takeR_len (M.take k) nn
    have htk : (M.take k).length ≤ 128 := Nat.le_trans (List.length_take_le _ _) (by omega)
    have hws3 := hg.size
    obtain ⟨Av, cv, hv, hcv1, hcv2, -⟩ := hown.listAt
    rw [List.length_map] at hv hcv1
    subst hv
    by_cases hlt : k < M.length
    · obtain ⟨b, off, rfl, hb, x0, x1⟩ := runs_nat (HR.out.keep (Nat.le_refl _) hg) hlt
      have hbs : b < wr.heap.size := by omega
      have hrb := HMB.out _ (List.getElem_mem hlt)
      have HST := Lib.hid (takeR_snoc M k nn hlt)
      have HCN := Lib.hid (cntL_snoc M k hlt)
      have HTT := Lib.hid (fun h => takeR_stop (M.drop k) (M.take k) nn h)
      generalize M[k] = r at *
      obtain ⟨rf, rc⟩ := r
      simp only at x0 x1 hrb
      obtain ⟨m, hm⟩ : ∃ m, nn - cntL (M.take k) = m := ⟨_, rfl⟩
      rw [hm] at HST
      rw [hm]
      by_cases hm0 : m = 0
      · have HTT2 := HTT.out (by omega)
        rw [List.take_append_drop] at HTT2
        have hz0 : nn - cntL M = 0 := by
          have h9 := cntL_append (M.take k) (M.drop k)
          rw [List.take_append_drop] at h9
          omega
        rw [← HTT2] at hown htl
        have hownx := hown
        have hgx := hg
        have hb0 : ((m : Int) == 0) = true := beq_iff_eq.2 (by omega)
        rw [← HTT2]
        subst hm0
        clear HTT2 hm
        by_cases hl2 : most < ((takeR M nn).length : Int)
        · have HE := Lib.hid (show allocS (memS l) (nn : Int) most = ([], 14) from by rw [HS2.out]; exact if_pos (.inr hl2))
          go_wp2_with fail
          go_returns
          rw [HE.out]
          exact ⟨_, rfl, OwnL.nil _ _ _ _, hG.trans hgx⟩
        · have HE := Lib.hid (show allocS (memS l) (nn : Int) most = (takeR M nn, 0) from by rw [HS2.out]; exact if_neg (fun h => h.elim (fun h => h hz0) hl2))
          go_wp2_with fail
          go_returns
          rw [HE.out]
          exact ⟨_, rfl, hownx.mono hgs, hG.trans hgx⟩
      · have hb0 : ((m : Int) == 0) = false := beq_eq_false_iff_ne.2 (by omega)
        have HSN := Lib.hid (HST.out.trans (by rw [if_neg hm0]))
        obtain ⟨q, hq⟩ : ∃ q, min rc m = q := ⟨_, rfl⟩
        have hqi : min (rc : Int) (m : Int) = (q : Int) := by omega
        have hqm : q ≤ m := by omega
        have hqr : q ≤ rc := by omega
        have hmn : m ≤ nn := by omega
        have hmp : 0 < m := by omega
        rw [hq] at HSN
        have hown2 := hown.alloc (.cells #[.int .i64 (rf : Int), .int .i64 (q : Int)] 65)
        have hg2 := hg.alloc (.cells #[.int .i64 (rf : Int), .int .i64 (q : Int)] 65)
        have hnext : nn - cntL (M.take (k + 1)) = m - q := by rw [HCN.out]; show nn - (cntL (M.take k) + rc) = _; omega
        have HNX := Lib.hid hnext
        clear hnext hm0 hm HTT HCN hq
        go_wp2_with (at_builtin; (try rw [hqi]); refine wpList_push rfl _ _ 29 rfl w3.heap.size 65 2 16 _ Tryz.underlying29 info_run rfl (by decide) (wr.alloc (.cells #[.int .i64 (rf : Int), .int .i64 (q : Int)] 65)) _ ((takeR (M.take k) nn).map rowN) (rowN (rf, q)) (by rfl) rfl rfl hown2 (by first | rfl | (simp; done)) rfl rfl (by rw [List.length_map]; omega) (by rw [List.length_map]; omega) hg2.size ?_; intro v' w5 hown3 hgr hbk hsz)
        go_roundg (M.length - (k + 1))
        case measure => rw [HGK.out]; omega
        case rel => exact ⟨k + 1, by omega, by omega, by go_num, by rw [HNX.out]; go_num, by rw [HSN.out, List.map_append]; exact hown3, hgr _ hg2 (Nat.le_refl _)⟩
    · obtain rfl : k = M.length := by omega
      rw [List.take_length] at hown htl ⊢
      have hownx := hown
      have hgx := hg
      by_cases hz0 : nn - cntL M = 0
      · rw [hz0]
        by_cases hl2 : most < ((takeR M nn).length : Int)
        · have HE := Lib.hid (show allocS (memS l) (nn : Int) most = ([], 14) from by rw [HS2.out]; exact if_pos (.inr hl2))
          go_wp2_with fail
          go_returns
          rw [HE.out]
          exact ⟨_, rfl, OwnL.nil _ _ _ _, hG.trans hgx⟩
        · have HE := Lib.hid (show allocS (memS l) (nn : Int) most = (takeR M nn, 0) from by rw [HS2.out]; exact if_neg (fun h => h.elim (fun h => h hz0) hl2))
          go_wp2_with fail
          go_returns
          rw [HE.out]
          exact ⟨_, rfl, hownx.mono hgs, hG.trans hgx⟩
      · have HE := Lib.hid (show allocS (memS l) (nn : Int) most = ([], 14) from by rw [HS2.out]; exact if_pos (.inl hz0))
        generalize nn - cntL M = m at *
        have hm1 : 0 < m := by omega
        go_wp2_with fail
        go_returns
        rw [HE.out]
        exact ⟨_, rfl, OwnL.nil _ _ _ _, hG.trans hgx⟩
end
end Go.Proofs.YtnlaogneceanoaaGreat
namespace Go.Proofs.YtnlaogneceanoaaGreat
set_option linter.unusedVariables false
set_option linter.unusedSimpArgs false
set_option linter.unusedSectionVars false
open Go.RowKit
theorem RunsAt.wide {w : World} {B B' : Nat} {A : Option Addr} {l : List (Int × Int)} (h : RunsAt w B A l) (hB : B ≤ B') : RunsAt w B' A l := ⟨h.1, h.2.mono hB⟩
def runUp (S : Nat → Bool) : Nat → Nat → Nat
  | _, 0 => 0
  | p, n + 1 => if S p = true then runUp S (p + 1) n + 1 else 0
theorem runUp_is (S : Nat → Bool) : ∀ (n p k : Nat), k ≤ n → (∀ j, j < k → S (p + j) = true) → (k = n ∨ S (p + k) = false) → runUp S p n = k := by
  intro n
  induction n with
  | zero =>
    intro p k hk _ _
    have : k = 0 := by omega
    subst this
    rfl
  | succ n ih =>
    intro p k hk hall hend
    rw [runUp]
    cases k with
    | zero =>
      rcases hend with h | h
      · omega
      · rw [Nat.add_zero] at h
        rw [if_neg (by rw [h]; simp)]
    | succ k =>
      rw [if_pos (by have := hall 0 (by omega); simpa using this)]
      rw [ih (p + 1) k (by omega) (fun j hj => by have := hall (j + 1) (by omega); rwa [show p + (j + 1) = p + 1 + j by omega] at this) (hend.imp (fun h => by omega) (fun h => by rwa [show p + (k + 1) = p + 1 + k by omega] at h))]
def extF (L : List (Nat × Nat)) (f : List (Int × Int)) : List (Nat × Nat) := normS fun i => memS f i && !memS (ints L) i
def extL (I : List (Nat × Nat)) (x : Nat × Nat) (k : Nat) : List (Nat × Nat) := I ++ [(x.1, x.2 + k)]
def extA (I : List (Nat × Nat)) (x : Nat × Nat) (f : List (Int × Int)) (nn k : Nat) : List (Nat × Nat) × Int :=
  allocS (memS (ints (extF (extL I x k) (ints (extF (I ++ [x]) f))))) ((nn - k : Nat) : Int) (16 - ((I.length : Int) + 1))
def extG (I : List (Nat × Nat)) (x : Nat × Nat) (f : List (Int × Int)) (nn k : Nat) : List (Nat × Nat) × Int :=
  if nn - k = 0 then (extL I x k, 0)
  else if 16 - ((I.length : Int) + 1) < 1 then ([], 14)
  else if (extA I x f nn k).2 ≠ 0 then ([], (extA I x f nn k).2)
  else (joinS (ints (extL I x k ++ (extA I x f nn k).1)), 0)
def extK (L : List (Nat × Nat)) (f : List (Int × Int)) (nn : Nat) : Nat := runUp (memS (ints (extF L f))) ((L.getLastD (0, 0)).1 + (L.getLastD (0, 0)).2) nn
/-- The extended extents, and the error. -/
def extS (e f : List (Int × Int)) (n : Int) : List (Nat × Nat) × Int :=
  if n < 1 ∨ joinS e = [] then ([], 1) else extG (joinS e).dropLast ((joinS e).getLastD (0, 0)) f n.toNat (extK (joinS e) f n.toNat)
theorem extS_eq (e f : List (Int × Int)) (nn : Nat) (I : List (Nat × Nat)) (x : Nat × Nat) (k : Nat) (h : joinS e = I ++ [x]) (hn : 1 ≤ nn) (hk : k ≤ nn) (hall : ∀ j, j < k → memS (ints (extF (I ++ [x]) f)) (x.1 + x.2 + j) = true) (hend : k = nn ∨ memS (ints (extF (I ++ [x]) f)) (x.1 + x.2 + k) = false) :
    extS e f (nn : Int) = extG I x f nn k := by
  unfold extS extK
  rw [h, if_neg (fun hh => hh.elim (fun hh => by omega) (fun hh => by simp at hh)), List.dropLast_concat, show (I ++ [x]).getLastD (0, 0) = x from by simp, Int.toNat_natCast, runUp_is _ nn _ k hk hall hend]
theorem rowN_len (k : List (Nat × Nat)) : ∀ r ∈ k.map rowN, r.length = 2 := by
  intro r hr
  obtain ⟨x, _, rfl⟩ := List.mem_map.1 hr
  rfl
theorem rowN_one (k : List (Nat × Nat)) : ∀ r ∈ k.map rowN, r.all (·.oneCell') = true := by
  intro r hr
  obtain ⟨x, _, rfl⟩ := List.mem_map.1 hr
  rfl
theorem sort_bd (S : Nat → Bool) : ∀ r ∈ sortS (normS S), r.1 + r.2 ≤ 128 := fun r hr => normS_bd S r ((mem_sortS _ (normS_cnt S) r).1 hr)
theorem sort_len (S : Nat → Bool) : (sortS (normS S)).length ≤ 128 := by rw [← (sortS_perm _ (normS_cnt S) (normS_asc S)).length_eq]; exact normS_len _
theorem alloc_bd (S : Nat → Bool) (n most : Int) : ∀ r ∈ (allocS S n most).1, r.1 + r.2 ≤ 128 := by
  unfold allocS
  split
  · intro r hr; cases hr
  · rename_i h0
    split
    · rename_i h1
      intro r hr
      rw [List.mem_singleton.1 hr]
      rcases bestF_mem n (normS S) with h | ⟨hm, h⟩
      · rw [h] at h1; exact absurd rfl h1
      · have := normS_bd S _ hm
        show (bestF n (normS S)).1 + n.toNat ≤ 128
        omega
    · split
      · intro r hr; cases hr
      · exact takeR_bd 128 _ _ (sort_bd S)
theorem alloc_len (S : Nat → Bool) (n most : Int) : (allocS S n most).1.length ≤ 128 := by
  unfold allocS
  split
  · exact Nat.zero_le _
  · split
    · show 1 ≤ 128; omega
    · split
      · exact Nat.zero_le _
      · exact Nat.le_trans (takeR_len _ _) (sort_len S)
theorem ext_bd (I : List (Nat × Nat)) (x : Nat × Nat) (F : List (Int × Int)) (k : Nat) (hb : ∀ r ∈ I ++ [x], r.1 + r.2 ≤ 128) (hall : ∀ j, j < k → memS F (x.1 + x.2 + j) = true) : ∀ r ∈ extL I x k, r.1 + r.2 ≤ 128 := by
  intro r hr
  unfold extL at hr
  rcases List.mem_append.1 hr with hr | hr
  · exact hb r (List.mem_append_left _ hr)
  · rw [List.mem_singleton.1 hr]
    have hx := hb x (List.mem_append_right _ (List.mem_singleton.2 rfl))
    show x.1 + (x.2 + k) ≤ 128
    cases k with
    | zero => omega
    | succ k => have := memS_lt _ _ (hall k (by omega)); omega
section
variable (A1 A2 : Option Addr) (c1 c2 : Nat) (l1 l2 : List (Int × Int)) (w : World) (B : Nat) (hB : B ≤ w.heap.size) (hl1 : l1.length ≤ 1000) (hl2 : l2.length ≤ 1000000) (hr1 : RunsAt w B A1 l1) (hr2 : RunsAt w B A2 l2) (n : Int) (n0 : -9223372036854775808 ≤ n) (n1 : n ≤ 9223372036854775807)
include hB hl1 hl2 hr1 hr2 n0 n1
set_option maxRecDepth 100000 in
set_option maxHeartbeats 4000000 in
theorem extend_any : Calls Tryz.prog 116 #[.slice A1 l1.length c1, .slice A2 l2.length c2, .int .i64 n] w (AllocR w (extS l1 l2 n)) := by
  have HJ := Lib.hid (join_any A1 c1 l1 w B hB (by omega) hr1)
  have hjl := joinS_len l1
  have hjb := joinS_bd l1
  by_cases h1 : n < 1
  · have HE := Lib.hid (show extS l1 l2 n = ([], 1) from by unfold extS; rw [if_pos (.inl h1)])
    go_enter Tryz.func116, Tryz.ntmps116
    go_wp2_with fail
    refine HJ.out.mono ?_
    rintro e w1 ⟨v, rfl, hown, g1⟩
    go_wp2_with fail
    go_returns
    rw [HE.out]
    exact ⟨_, rfl, OwnL.nil _ _ _ _, g1⟩
  obtain ⟨nn, rfl⟩ : ∃ nn : Nat, n = (nn : Int) := ⟨n.toNat, by omega⟩
  rcases last_cases (joinS l1) with h0 | ⟨I, x, hL⟩
  · have HE := Lib.hid (show extS l1 l2 (nn : Int) = ([], 1) from by unfold extS; rw [if_pos (.inr h0)])
    go_enter Tryz.func116, Tryz.ntmps116
    go_wp2_with fail
    refine HJ.out.mono ?_
    rintro e w1 ⟨v, rfl, hown, g1⟩
    rw [h0] at hown
    obtain ⟨A', c', hv, -⟩ := hown.listAt
    subst hv
    go_wp2_with fail
    go_returns
    rw [HE.out]
    exact ⟨_, rfl, OwnL.nil _ _ _ _, g1⟩
  have HEQ := Lib.hid (fun k h2 h3 h4 => extS_eq l1 l2 nn I x k hL (by omega) h2 h3 h4)
  have HBD := Lib.hid (fun k h => ext_bd I x (ints (extF (I ++ [x]) l2)) k (by rw [← hL]; exact hjb) h)
  rw [hL] at hjl hjb HJ
  have HJB := Lib.hid hjb
  have hIl : I.length + 1 ≤ 1000 := by simp at hjl; omega
  have HMIN := Lib.hid (fun (w1 : World) (g1 : Grew w w1) A c (h : RunsAt w1 w1.heap.size A (ints (I ++ [x]))) => minus_any A2 A c2 c l2 (ints (I ++ [x])) w1 w1.heap.size (Nat.le_refl _) hl2 (by rw [ints_len]; simp; omega) (RunsAt.wide (hr2.keep hB g1) (Nat.le_trans hB g1.size)) h)
  clear hr1 hr2 hjl hjb hL
  go_enter Tryz.func116, Tryz.ntmps116
  go_wp2_with fail
  refine HJ.out.mono ?_
  rintro e w1 ⟨v, rfl, hown, g1⟩
  obtain ⟨A', c', hv', hrL, _, _, hA'⟩ := own_runs2 hown (fun r hr => Nat.le_trans (HJB.out r hr) (by omega))
  rcases hown.form with ⟨_, hn0⟩ | ⟨g, cap, hv, hg1, hg2, _, _⟩
  · exfalso; have := congrArg List.length hn0; simp at this
  rw [List.length_map, List.length_append, List.length_singleton] at hv
  rw [List.length_append, List.length_singleton, hv] at hv'
  injection hv' with e1 e2 e3
  subst e1; subst e3; subst hv
  have HM2 := Lib.hid (HMIN.out w1 g1 _ cap hrL)
  rw [ints_len, List.length_append, List.length_singleton] at HM2
  clear HMIN HJ hA' e2
  have hz0 : ((I.length : Int) + 1 == 0) = false := beq_eq_false_iff_ne.2 (by omega)
  have hnd : decide ((nn : Int) < 1) = false := decide_eq_false (by omega)
  have h1p : 1 ≤ nn := by omega
  go_wp2_with fail
  refine HM2.out.mono ?_
  rintro e w2 ⟨v2, rfl, hown2, g2⟩
  rw [show (normS fun i => memS l2 i && !memS (ints (I ++ [x])) i) = extF (I ++ [x]) l2 from rfl] at hown2
  obtain ⟨F, hF⟩ : ∃ F, extF (I ++ [x]) l2 = F := ⟨_, rfl⟩
  have hFb : ∀ r ∈ extF (I ++ [x]) l2, r.1 + r.2 ≤ 128 := normS_bd _
  have hFl : (extF (I ++ [x]) l2).length ≤ 128 := normS_len _
  rw [hF] at hown2 hFb hFl
  rw [hF] at HBD HEQ
  have HF := Lib.hid hF
  obtain ⟨AF, cF, hvF, hrF, _, _, hAF⟩ := own_runs2 hown2 (fun r hr => Nat.le_trans (hFb r hr) (by omega))
  subst hvF
  have HRF := Lib.hid hrF
  have HAF := Lib.hid (show ∀ b off, AF = some ⟨b, off, none⟩ → ¬ b = g from fun b off e => by have := (hAF b off e).1; omega)
  have hownL := hown.grew g2
  have hG := g1.trans g2
  have hg2' : g < w2.heap.size := by have := g2.size; omega
  obtain ⟨xf, xc⟩ := x
  clear HM2 hF hown2 hrF hAF hown hrL g1 g2
  go_wp2_with fail
  go_loopg [2] nn (fun gk nv wr => ∃ k : Nat, k ≤ nn ∧ gk = nn - k ∧ nv = .int .i64 ((nn - k : Nat) : Int) ∧ (∀ j, j < k → memS (ints F) (xf + xc + j) = true) ∧ OwnL wr w.heap.size 65 2 (.slice (some ⟨g, 0, none⟩) (I.length + 1) cap) ((I ++ [(xf, xc + k)]).map rowN) ∧ Turned (fun i => i = g) w2 wr)
  case atStart => exact ⟨0, by omega, by omega, by simp, fun j hj => by omega, hownL, Turned.refl _ _⟩
  case round =>
    obtain ⟨k, hk, hgk, rfl, hall, hownk, ht⟩ := hrel
    have HGK := Lib.hid hgk
    clear hgk
    have hrow : ((I ++ [(xf, xc + k)]).map rowN)[I.length]? = some (rowN (xf, xc + k)) := by simp
    have y0 : wr.cell? ⟨g, I.length * 2, none⟩ = some (.int .i64 (xf : Int)) := hownk.cell (i := 0) hrow rfl
    have y1 : wr.cell? ⟨g, I.length * 2 + 1, none⟩ = some (.int .i64 ((xc : Int) + (k : Int))) := by have := hownk.cell (i := 1) hrow rfl; rw [this]; rfl
    have yf1 := hownk.frozen (I.length * 2 + 1)
    have hbk : xf + (xc + k) ≤ 128 := HBD.out k hall (xf, xc + k) (by simp [extL])
    have hts := ht.size
    have hgw : g < wr.heap.size := by omega
    have hrF : RunsAt wr wr.heap.size AF (ints F) := RunsAt.wide (HRF.out.turned (Nat.le_refl _) ht HAF.out) hts
    have hIN : inT (ints F) ((xf : Int) + ((xc : Int) + (k : Int))) = memS (ints F) (xf + xc + k) := by rw [show (xf : Int) + ((xc : Int) + (k : Int)) = ((xf + xc + k : Nat) : Int) by omega, inT_nat]
    have hw : IntKind.i64.wrap ((xf : Int) + ((xc : Int) + (k : Int))) = (xf : Int) + ((xc : Int) + (k : Int)) := by rw [IntKind.wrap_i64]; omega
    obtain ⟨m, hm⟩ : ∃ m, nn - k = m := ⟨_, rfl⟩
    rw [hm]
    have HALL := Lib.hid hall
    have HOWN := Lib.hid hownk
    have HT := Lib.hid ht
    have HRK := Lib.hid hrF
    have HROW := Lib.hid hrow
    have HINX := Lib.hid hIN
    clear hall hownk ht hrF hrow hIN
    by_cases hm0 : m = 0
    · have hkn : k = nn := by omega
      subst hm0
      have HE := Lib.hid (show extS l1 l2 (nn : Int) = (extL I (xf, xc) k, 0) from by rw [HEQ.out k hk HALL.out (.inl hkn)]; unfold extG; rw [if_pos hm])
      have hGx : Grew w wr := hG.turn HT.out (fun i hi => by omega)
      have HGX := Lib.hid hGx
      clear hm hkn hGx
      go_wp2_with fail
      refine wp_region_R [] (fun w' : World => w'.cell? ⟨g, I.length * 2, none⟩ = some (.int .i64 (xf : Int)) ∧ w'.cell? ⟨g, I.length * 2 + 1, none⟩ = some (.int .i64 ((xc : Int) + (k : Int)))) (by kernel_rfl) ?_
      have hS := (show (fun w' : World => w'.cell? ⟨g, I.length * 2, none⟩ = some (.int .i64 (xf : Int)) ∧ w'.cell? ⟨g, I.length * 2 + 1, none⟩ = some (.int .i64 ((xc : Int) + (k : Int)))) wr.drew from ⟨y0, y1⟩)
      refine wpAnyR_takeQ (i := 0) (v := ?_) (some 33) rfl rfl (by kernel_rfl) (by kernel_rfl) (by kernel_rfl) (by kernel_rfl) (fun _ _ _ h => h) (Or.inl ⟨by rfl, ?_⟩) ?_
      rotate_left
      focus (intro wS hSw; (try dsimp only at hSw); go_simp; (try with_reducible rfl); (try (first | (rw [if_pos (by omega)]; (try go_simp); (try with_reducible rfl)) | (rw [if_neg (by omega)]; (try go_simp); (try with_reducible rfl)))))
      try simp only [Act.put, zA, zB, zC]
      refine wpAnyR_takeQ (i := 1) (v := ?_) (some 34) rfl rfl (by kernel_rfl) (by kernel_rfl) (by kernel_rfl) (by kernel_rfl) (fun _ _ _ h => h) (Or.inl ⟨by rfl, ?_⟩) ?_
      rotate_left
      focus (intro wS hSw; (try dsimp only at hSw); go_simp; (try with_reducible rfl); (try (first | (rw [if_pos (by omega)]; (try go_simp); (try with_reducible rfl)) | (rw [if_neg (by omega)]; (try go_simp); (try with_reducible rfl)))))
      try simp only [Act.put, zA, zB, zC]
      refine wpAnyR_takeQ (i := 2) (v := ?_) (some 35) rfl rfl (by kernel_rfl) (by kernel_rfl) (by kernel_rfl) (by kernel_rfl) (fun _ _ _ h => h) (Or.inl ⟨by rfl, ?_⟩) ?_
      rotate_left
      focus (intro wS hSw; (try dsimp only at hSw); go_simp; (try with_reducible rfl); (try (first | (rw [if_pos (by omega)]; (try go_simp); (try with_reducible rfl)) | (rw [if_neg (by omega)]; (try go_simp); (try with_reducible rfl)))))
      try simp only [Act.put, zA, zB, zC]
      refine wpAnyR_takeQ (i := 3) (v := undef) (some 36) rfl rfl (by kernel_rfl) (by kernel_rfl) (by kernel_rfl) (by kernel_rfl) (fun _ _ _ h => h) (Or.inr ⟨by rfl, rfl⟩) ?_
      try simp only [Act.put, zA, zB, zC]
      refine wpAnyR_takeQ (i := 4) (v := undef) (some 37) rfl rfl (by kernel_rfl) (by kernel_rfl) (by kernel_rfl) (by kernel_rfl) (fun _ _ _ h => h) (Or.inr ⟨by rfl, rfl⟩) ?_
      try simp only [Act.put, zA, zB, zC]
      refine wpAnyR_takeQ (i := 5) (v := undef) (some 38) rfl rfl (by kernel_rfl) (by kernel_rfl) (by kernel_rfl) (by kernel_rfl) (fun _ _ _ h => h) (Or.inr ⟨by rfl, rfl⟩) ?_
      try simp only [Act.put, zA, zB, zC]
      refine wpAnyR_takeQ (i := 6) (v := undef) (some 39) rfl rfl (by kernel_rfl) (by kernel_rfl) (by kernel_rfl) (by kernel_rfl) (fun _ _ _ h => h) (Or.inr ⟨by rfl, rfl⟩) ?_
      try simp only [Act.put, zA, zB, zC]
      refine wpAnyR_takeQ (i := 7) (v := undef) (some 40) rfl rfl (by kernel_rfl) (by kernel_rfl) (by kernel_rfl) (by kernel_rfl) (fun _ _ _ h => h) (Or.inr ⟨by rfl, rfl⟩) ?_
      try simp only [Act.put, zA, zB, zC]
      refine wpAnyR_takeQ (i := 8) (v := undef) (some 41) rfl rfl (by kernel_rfl) (by kernel_rfl) (by kernel_rfl) (by kernel_rfl) (fun _ _ _ h => h) (Or.inr ⟨by rfl, rfl⟩) ?_
      try simp only [Act.put, zA, zB, zC]
      refine wpAnyR_takeQ (i := 9) (v := undef) (some 42) rfl rfl (by kernel_rfl) (by kernel_rfl) (by kernel_rfl) (by kernel_rfl) (fun _ _ _ h => h) (Or.inr ⟨by rfl, rfl⟩) ?_
      try simp only [Act.put, zA, zB, zC]
      refine wpAnyR_takeQ (i := 10) (v := undef) (some 43) rfl rfl (by kernel_rfl) (by kernel_rfl) (by kernel_rfl) (by kernel_rfl) (fun _ _ _ h => h) (Or.inr ⟨by rfl, rfl⟩) ?_
      try simp only [Act.put, zA, zB, zC]
      refine wpAnyR_takeQ (i := 11) (v := undef) (some 44) rfl rfl (by kernel_rfl) (by kernel_rfl) (by kernel_rfl) (by kernel_rfl) (fun _ _ _ h => h) (Or.inr ⟨by rfl, rfl⟩) ?_
      try simp only [Act.put, zA, zB, zC]
      refine wpAnyR_takeQ (i := 12) (v := undef) (some 45) rfl rfl (by kernel_rfl) (by kernel_rfl) (by kernel_rfl) (by kernel_rfl) (fun _ _ _ h => h) (Or.inr ⟨by rfl, rfl⟩) ?_
      try simp only [Act.put, zA, zB, zC]
      refine wpAnyR_takeQ (i := 13) (v := undef) (some 46) rfl rfl (by kernel_rfl) (by kernel_rfl) (by kernel_rfl) (by kernel_rfl) (fun _ _ _ h => h) (Or.inr ⟨by rfl, rfl⟩) ?_
      try simp only [Act.put, zA, zB, zC]
      refine wpAnyR_takeQ (i := 14) (v := ?_) (some 47) rfl rfl (by kernel_rfl) (by kernel_rfl) (by kernel_rfl) (by kernel_rfl) (fun _ _ _ h => h) (Or.inl ⟨by rfl, ?_⟩) ?_
      rotate_left
      focus (intro wS hSw; (try dsimp only at hSw); go_simp; (try with_reducible rfl); (try (first | (rw [if_pos (by omega)]; (try go_simp); (try with_reducible rfl)) | (rw [if_neg (by omega)]; (try go_simp); (try with_reducible rfl)))))
      try simp only [Act.put, zA, zB, zC]
      refine wpAnyR_done (by kernel_rfl) ?_ _
      go_wp2_with fail
      go_returns
      rw [HE.out]
      exact ⟨_, rfl, HOWN.out.drew, HGX.out.drew⟩
    have hmp : 0 < m := by omega
    cases hbb : memS (ints F) (xf + xc + k) with
    | true =>
      go_wp2_with fail
      refine wp_region_R [] (fun w' : World => w'.cell? ⟨g, I.length * 2, none⟩ = some (.int .i64 (xf : Int)) ∧ w'.cell? ⟨g, I.length * 2 + 1, none⟩ = some (.int .i64 ((xc : Int) + (k : Int)))) (by kernel_rfl) ?_
      have hS := (show (fun w' : World => w'.cell? ⟨g, I.length * 2, none⟩ = some (.int .i64 (xf : Int)) ∧ w'.cell? ⟨g, I.length * 2 + 1, none⟩ = some (.int .i64 ((xc : Int) + (k : Int)))) wr.drew from ⟨y0, y1⟩)
      refine wpAnyR_takeQ (i := 0) (v := ?_) (some 33) rfl rfl (by kernel_rfl) (by kernel_rfl) (by kernel_rfl) (by kernel_rfl) (fun _ _ _ h => h) (Or.inl ⟨by rfl, ?_⟩) ?_
      rotate_left
      focus (intro wS hSw; (try dsimp only at hSw); go_simp; (try with_reducible rfl); (try (first | (rw [if_pos (by omega)]; (try go_simp); (try with_reducible rfl)) | (rw [if_neg (by omega)]; (try go_simp); (try with_reducible rfl)))))
      try simp only [Act.put, zA, zB, zC]
      refine wpAnyR_takeQ (i := 1) (v := ?_) (some 34) rfl rfl (by kernel_rfl) (by kernel_rfl) (by kernel_rfl) (by kernel_rfl) (fun _ _ _ h => h) (Or.inl ⟨by rfl, ?_⟩) ?_
      rotate_left
      focus (intro wS hSw; (try dsimp only at hSw); go_simp; (try with_reducible rfl); (try (first | (rw [if_pos (by omega)]; (try go_simp); (try with_reducible rfl)) | (rw [if_neg (by omega)]; (try go_simp); (try with_reducible rfl)))))
      try simp only [Act.put, zA, zB, zC]
      refine wpAnyR_takeQ (i := 2) (v := ?_) (some 35) rfl rfl (by kernel_rfl) (by kernel_rfl) (by kernel_rfl) (by kernel_rfl) (fun _ _ _ h => h) (Or.inl ⟨by rfl, ?_⟩) ?_
      rotate_left
      focus (intro wS hSw; (try dsimp only at hSw); go_simp; (try with_reducible rfl); (try (first | (rw [if_pos (by omega)]; (try go_simp); (try with_reducible rfl)) | (rw [if_neg (by omega)]; (try go_simp); (try with_reducible rfl)))))
      try simp only [Act.put, zA, zB, zC]
      try rw [show decide ((m : Int) > 0) = true from decide_eq_true (by omega)]
      refine wpAnyR_takeQ (i := 3) (v := ?_) (some 36) rfl rfl (by kernel_rfl) (by kernel_rfl) (by kernel_rfl) (by kernel_rfl) (fun _ _ _ h => h) (Or.inl ⟨by rfl, ?_⟩) ?_
      rotate_left
      focus (intro wS hSw; (try dsimp only at hSw); go_simp; (try with_reducible rfl); (try (first | (rw [if_pos (by omega)]; (try go_simp); (try with_reducible rfl)) | (rw [if_neg (by omega)]; (try go_simp); (try with_reducible rfl)))))
      try simp only [Act.put, zA, zB, zC]
      refine wpAnyR_takeQ (i := 4) (v := ?_) (some 37) rfl rfl (by kernel_rfl) (by kernel_rfl) (by kernel_rfl) (by kernel_rfl) (fun _ _ _ h => h) (Or.inl ⟨by rfl, ?_⟩) ?_
      rotate_left
      focus (intro wS hSw; (try dsimp only at hSw); go_simp; (try with_reducible rfl); (try (first | (rw [if_pos (by omega)]; (try go_simp); (try with_reducible rfl)) | (rw [if_neg (by omega)]; (try go_simp); (try with_reducible rfl)))))
      try simp only [Act.put, zA, zB, zC]
      refine wpAnyR_take (i := 5) (v := ?_) [6, 7, 12, 13, 14] (some 38) rfl rfl (by kernel_rfl) (by kernel_rfl) (by kernel_rfl) (by kernel_rfl) (by kernel_rfl) (by kernel_rfl) (by kernel_rfl) (fun _ _ _ h => h) (Or.inl ⟨by rfl, ?_⟩) hS ?_
      rotate_left
      focus (intro wS hSw; (try dsimp only at hSw); go_simp; (try with_reducible rfl); (try (first | (rw [if_pos (by omega)]; (try go_simp); (try with_reducible rfl)) | (rw [if_neg (by omega)]; (try go_simp); (try with_reducible rfl)))))
      try simp only [Act.put, zA, zB, zC]
      refine wpAnyR_takeQ (i := 6) (v := ?_) (some 39) rfl rfl (by kernel_rfl) (by kernel_rfl) (by kernel_rfl) (by kernel_rfl) (fun _ _ _ h => h) (Or.inl ⟨by rfl, ?_⟩) ?_
      rotate_left
      focus (intro wS hSw; (try dsimp only at hSw); go_simp; (try with_reducible rfl); (try (first | (rw [if_pos (by omega)]; (try go_simp); (try with_reducible rfl)) | (rw [if_neg (by omega)]; (try go_simp); (try with_reducible rfl)))))
      try simp only [Act.put, zA, zB, zC]
      refine wpAnyR_take (i := 7) (v := ?_) [12, 13, 14] (some 40) rfl rfl (by kernel_rfl) (by kernel_rfl) (by kernel_rfl) (by kernel_rfl) (by kernel_rfl) (by kernel_rfl) (by kernel_rfl) (fun _ _ _ h => h) (Or.inl ⟨by rfl, ?_⟩) hS ?_
      rotate_left
      focus (intro wS hSw; (try dsimp only at hSw); go_simp; (try with_reducible rfl); (try (first | (rw [if_pos (by omega)]; (try go_simp); (try with_reducible rfl)) | (rw [if_neg (by omega)]; (try go_simp); (try with_reducible rfl)))))
      try simp only [Act.put, zA, zB, zC]
      refine wpAnyR_takeQ (i := 8) (v := ?_) (some 41) rfl rfl (by kernel_rfl) (by kernel_rfl) (by kernel_rfl) (by kernel_rfl) (fun _ _ _ h => h) (Or.inl ⟨by rfl, ?_⟩) ?_
      rotate_left
      focus (intro wS hSw; (try dsimp only at hSw); go_simp; (try with_reducible rfl); (try (first | (rw [if_pos (by omega)]; (try go_simp); (try with_reducible rfl)) | (rw [if_neg (by omega)]; (try go_simp); (try with_reducible rfl)))))
      try simp only [Act.put, zA, zB, zC]
      refine wpAnyR_take (i := 9) (v := ?_) [10, 11, 12, 13, 14] (some 42) rfl rfl (by kernel_rfl) (by kernel_rfl) (by kernel_rfl) (by kernel_rfl) (by kernel_rfl) (by kernel_rfl) (by kernel_rfl) (fun _ _ _ h => h) (Or.inl ⟨by rfl, ?_⟩) hS ?_
      rotate_left
      focus (intro wS hSw; (try dsimp only at hSw); go_simp; (try with_reducible rfl); (try (first | (rw [if_pos (by omega)]; (try go_simp); (try with_reducible rfl)) | (rw [if_neg (by omega)]; (try go_simp); (try with_reducible rfl)))))
      try simp only [Act.put, zA, zB, zC]
      refine wpAnyR_takeQ (i := 10) (v := ?_) (some 43) rfl rfl (by kernel_rfl) (by kernel_rfl) (by kernel_rfl) (by kernel_rfl) (fun _ _ _ h => h) (Or.inl ⟨by rfl, ?_⟩) ?_
      rotate_left
      focus (intro wS hSw; (try dsimp only at hSw); go_simp; (try with_reducible rfl); (try (first | (rw [if_pos (by omega)]; (try go_simp); (try with_reducible rfl)) | (rw [if_neg (by omega)]; (try go_simp); (try with_reducible rfl)))))
      try simp only [Act.put, zA, zB, zC]
      refine wpAnyR_take (i := 11) (v := ?_) [12, 13, 14] (some 44) rfl rfl (by kernel_rfl) (by kernel_rfl) (by kernel_rfl) (by kernel_rfl) (by kernel_rfl) (by kernel_rfl) (by kernel_rfl) (fun _ _ _ h => h) (Or.inl ⟨by rfl, ?_⟩) hS ?_
      rotate_left
      focus (intro wS hSw; (try dsimp only at hSw); go_simp; (try with_reducible rfl); (try (first | (rw [if_pos (by omega)]; (try go_simp); (try with_reducible rfl)) | (rw [if_neg (by omega)]; (try go_simp); (try with_reducible rfl)))))
      try simp only [Act.put, zA, zB, zC]
      refine wpAnyR_takeQ (i := 12) (v := ?_) (some 45) rfl rfl (by kernel_rfl) (by kernel_rfl) (by kernel_rfl) (by kernel_rfl) (fun _ _ _ h => h) (Or.inl ⟨by rfl, ?_⟩) ?_
      rotate_left
      focus (intro wS hSw; (try dsimp only at hSw); go_simp; (try with_reducible rfl); (try (first | (rw [if_pos (by omega)]; (try go_simp); (try with_reducible rfl)) | (rw [if_neg (by omega)]; (try go_simp); (try with_reducible rfl)))))
      try simp only [Act.put, zA, zB, zC]
      try rw [hw]
      refine wpAnyR_n1 (i := 13) rfl (by kernel_rfl) ?_
      intro K' hK
      rw [if_pos (by rfl)]
      simp only [List.getElem_toArray, List.getElem_cons_succ, List.getElem_cons_zero]
      go_wp2_with fail
      refine (contains_val (w := wr.drew) (l := ints F) (ints_len F).symm (by rw [ints_len]; omega) HRK.out _ (by omega) (by omega) true (by rw [HINX.out, hbb])).mono ?_
      rintro e wb ⟨rfl, gb⟩
      go_wp2_with fail
      have q0 := (gb.cellEq _ _ hgw).trans y0
      have q1 := (gb.cellEq _ _ hgw).trans y1
      have qf := (gb.frozenEq _ _ hgw).trans yf1
      have hgwb : g < wb.heap.size := Nat.lt_of_lt_of_le hgw gb.size
      have gb' : Grew wr wb := (Grew.refl wr).drew.trans gb
      have hownb := HOWN.out.grew gb'
      have htb := HT.out.andGrew gb'
      refine hK.out _ _ (.inr (fun _ => ⟨q0, q1⟩)) ?_
      clear hK hS
      refine wpAnyR_takeQ (i := 14) (v := ?_) (some 47) rfl rfl (by kernel_rfl) (by kernel_rfl) (by kernel_rfl) (by kernel_rfl) (fun _ _ _ h => h) (Or.inl ⟨by rfl, ?_⟩) ?_
      rotate_left
      focus (intro wS hSw; (try dsimp only at hSw); go_simp; (try with_reducible rfl); (try (first | (rw [if_pos (by omega)]; (try go_simp); (try with_reducible rfl)) | (rw [if_neg (by omega)]; (try go_simp); (try with_reducible rfl)))))
      try simp only [Act.put, zA, zB, zC]
      refine wpAnyR_done (by kernel_rfl) ?_ _
      clear y0 y1 yf1
      have HBB := Lib.hid hbb
      have hsetown := hownb.set_ (i := 1) (o := I.length * 2 + 1) HROW.out (by omega) rfl (.int .i64 ((xc + (k + 1) : Nat) : Int))
      rw [rows_set', show (I ++ [(xf, xc + k)]).set I.length (xf, xc + (k + 1)) = I ++ [(xf, xc + (k + 1))] from by rw [List.set_append_right _ _ (Nat.le_refl _)]; simp] at hsetown
      have HST := Lib.hid hsetown
      have hq1' : (xc : Int) + (k : Int) + 1 = ((xc + (k + 1) : Nat) : Int) := by omega
      clear hsetown hbb
      go_wp2_with fail
      go_roundg (nn - (k + 1))
      case measure => rw [HGK.out]; omega
      case rel => exact ⟨k + 1, by omega, by omega, by go_num, fun j hj => by (by_cases hjk : j = k); (· subst hjk; exact HBB.out); (· exact HALL.out j (by omega)), by have := HST.out; (first | exact this | (rw [hq1'] at *; exact this)), by have := htb; (repeat' first | (with_reducible exact Turned.refl _ _) | (with_reducible assumption) | (with_reducible refine Turned.alloc ?_ _) | (with_reducible refine Turned.drew ?_) | (with_reducible refine Turned.drewN ?_ _) | (with_reducible refine Turned.setRow ?_ (by first | (simp; done) | (simp; omega) | omega) _) | (with_reducible refine Turned.setCell ?_ (by first | (simp; done) | (simp; omega) | omega) _) | ((with_reducible apply Turned.andGrew); rotate_left; (with_reducible assumption)) | ((with_reducible apply Turned.trans); rotate_left; (with_reducible assumption)) | fail)⟩
    | false =>
      go_wp2_with fail
      refine wp_region_R [] (fun w' : World => w'.cell? ⟨g, I.length * 2, none⟩ = some (.int .i64 (xf : Int)) ∧ w'.cell? ⟨g, I.length * 2 + 1, none⟩ = some (.int .i64 ((xc : Int) + (k : Int)))) (by kernel_rfl) ?_
      have hS := (show (fun w' : World => w'.cell? ⟨g, I.length * 2, none⟩ = some (.int .i64 (xf : Int)) ∧ w'.cell? ⟨g, I.length * 2 + 1, none⟩ = some (.int .i64 ((xc : Int) + (k : Int)))) wr.drew from ⟨y0, y1⟩)
      refine wpAnyR_takeQ (i := 0) (v := ?_) (some 33) rfl rfl (by kernel_rfl) (by kernel_rfl) (by kernel_rfl) (by kernel_rfl) (fun _ _ _ h => h) (Or.inl ⟨by rfl, ?_⟩) ?_
      rotate_left
      focus (intro wS hSw; (try dsimp only at hSw); go_simp; (try with_reducible rfl); (try (first | (rw [if_pos (by omega)]; (try go_simp); (try with_reducible rfl)) | (rw [if_neg (by omega)]; (try go_simp); (try with_reducible rfl)))))
      try simp only [Act.put, zA, zB, zC]
      refine wpAnyR_takeQ (i := 1) (v := ?_) (some 34) rfl rfl (by kernel_rfl) (by kernel_rfl) (by kernel_rfl) (by kernel_rfl) (fun _ _ _ h => h) (Or.inl ⟨by rfl, ?_⟩) ?_
      rotate_left
      focus (intro wS hSw; (try dsimp only at hSw); go_simp; (try with_reducible rfl); (try (first | (rw [if_pos (by omega)]; (try go_simp); (try with_reducible rfl)) | (rw [if_neg (by omega)]; (try go_simp); (try with_reducible rfl)))))
      try simp only [Act.put, zA, zB, zC]
      refine wpAnyR_takeQ (i := 2) (v := ?_) (some 35) rfl rfl (by kernel_rfl) (by kernel_rfl) (by kernel_rfl) (by kernel_rfl) (fun _ _ _ h => h) (Or.inl ⟨by rfl, ?_⟩) ?_
      rotate_left
      focus (intro wS hSw; (try dsimp only at hSw); go_simp; (try with_reducible rfl); (try (first | (rw [if_pos (by omega)]; (try go_simp); (try with_reducible rfl)) | (rw [if_neg (by omega)]; (try go_simp); (try with_reducible rfl)))))
      try simp only [Act.put, zA, zB, zC]
      try rw [show decide ((m : Int) > 0) = true from decide_eq_true (by omega)]
      refine wpAnyR_takeQ (i := 3) (v := ?_) (some 36) rfl rfl (by kernel_rfl) (by kernel_rfl) (by kernel_rfl) (by kernel_rfl) (fun _ _ _ h => h) (Or.inl ⟨by rfl, ?_⟩) ?_
      rotate_left
      focus (intro wS hSw; (try dsimp only at hSw); go_simp; (try with_reducible rfl); (try (first | (rw [if_pos (by omega)]; (try go_simp); (try with_reducible rfl)) | (rw [if_neg (by omega)]; (try go_simp); (try with_reducible rfl)))))
      try simp only [Act.put, zA, zB, zC]
      refine wpAnyR_takeQ (i := 4) (v := ?_) (some 37) rfl rfl (by kernel_rfl) (by kernel_rfl) (by kernel_rfl) (by kernel_rfl) (fun _ _ _ h => h) (Or.inl ⟨by rfl, ?_⟩) ?_
      rotate_left
      focus (intro wS hSw; (try dsimp only at hSw); go_simp; (try with_reducible rfl); (try (first | (rw [if_pos (by omega)]; (try go_simp); (try with_reducible rfl)) | (rw [if_neg (by omega)]; (try go_simp); (try with_reducible rfl)))))
      try simp only [Act.put, zA, zB, zC]
      refine wpAnyR_take (i := 5) (v := ?_) [6, 7, 12, 13, 14] (some 38) rfl rfl (by kernel_rfl) (by kernel_rfl) (by kernel_rfl) (by kernel_rfl) (by kernel_rfl) (by kernel_rfl) (by kernel_rfl) (fun _ _ _ h => h) (Or.inl ⟨by rfl, ?_⟩) hS ?_
      rotate_left
      focus (intro wS hSw; (try dsimp only at hSw); go_simp; (try with_reducible rfl); (try (first | (rw [if_pos (by omega)]; (try go_simp); (try with_reducible rfl)) | (rw [if_neg (by omega)]; (try go_simp); (try with_reducible rfl)))))
      try simp only [Act.put, zA, zB, zC]
      refine wpAnyR_takeQ (i := 6) (v := ?_) (some 39) rfl rfl (by kernel_rfl) (by kernel_rfl) (by kernel_rfl) (by kernel_rfl) (fun _ _ _ h => h) (Or.inl ⟨by rfl, ?_⟩) ?_
      rotate_left
      focus (intro wS hSw; (try dsimp only at hSw); go_simp; (try with_reducible rfl); (try (first | (rw [if_pos (by omega)]; (try go_simp); (try with_reducible rfl)) | (rw [if_neg (by omega)]; (try go_simp); (try with_reducible rfl)))))
      try simp only [Act.put, zA, zB, zC]
      refine wpAnyR_take (i := 7) (v := ?_) [12, 13, 14] (some 40) rfl rfl (by kernel_rfl) (by kernel_rfl) (by kernel_rfl) (by kernel_rfl) (by kernel_rfl) (by kernel_rfl) (by kernel_rfl) (fun _ _ _ h => h) (Or.inl ⟨by rfl, ?_⟩) hS ?_
      rotate_left
      focus (intro wS hSw; (try dsimp only at hSw); go_simp; (try with_reducible rfl); (try (first | (rw [if_pos (by omega)]; (try go_simp); (try with_reducible rfl)) | (rw [if_neg (by omega)]; (try go_simp); (try with_reducible rfl)))))
      try simp only [Act.put, zA, zB, zC]
      refine wpAnyR_takeQ (i := 8) (v := ?_) (some 41) rfl rfl (by kernel_rfl) (by kernel_rfl) (by kernel_rfl) (by kernel_rfl) (fun _ _ _ h => h) (Or.inl ⟨by rfl, ?_⟩) ?_
      rotate_left
      focus (intro wS hSw; (try dsimp only at hSw); go_simp; (try with_reducible rfl); (try (first | (rw [if_pos (by omega)]; (try go_simp); (try with_reducible rfl)) | (rw [if_neg (by omega)]; (try go_simp); (try with_reducible rfl)))))
      try simp only [Act.put, zA, zB, zC]
      refine wpAnyR_take (i := 9) (v := ?_) [10, 11, 12, 13, 14] (some 42) rfl rfl (by kernel_rfl) (by kernel_rfl) (by kernel_rfl) (by kernel_rfl) (by kernel_rfl) (by kernel_rfl) (by kernel_rfl) (fun _ _ _ h => h) (Or.inl ⟨by rfl, ?_⟩) hS ?_
      rotate_left
      focus (intro wS hSw; (try dsimp only at hSw); go_simp; (try with_reducible rfl); (try (first | (rw [if_pos (by omega)]; (try go_simp); (try with_reducible rfl)) | (rw [if_neg (by omega)]; (try go_simp); (try with_reducible rfl)))))
      try simp only [Act.put, zA, zB, zC]
      refine wpAnyR_takeQ (i := 10) (v := ?_) (some 43) rfl rfl (by kernel_rfl) (by kernel_rfl) (by kernel_rfl) (by kernel_rfl) (fun _ _ _ h => h) (Or.inl ⟨by rfl, ?_⟩) ?_
      rotate_left
      focus (intro wS hSw; (try dsimp only at hSw); go_simp; (try with_reducible rfl); (try (first | (rw [if_pos (by omega)]; (try go_simp); (try with_reducible rfl)) | (rw [if_neg (by omega)]; (try go_simp); (try with_reducible rfl)))))
      try simp only [Act.put, zA, zB, zC]
      refine wpAnyR_take (i := 11) (v := ?_) [12, 13, 14] (some 44) rfl rfl (by kernel_rfl) (by kernel_rfl) (by kernel_rfl) (by kernel_rfl) (by kernel_rfl) (by kernel_rfl) (by kernel_rfl) (fun _ _ _ h => h) (Or.inl ⟨by rfl, ?_⟩) hS ?_
      rotate_left
      focus (intro wS hSw; (try dsimp only at hSw); go_simp; (try with_reducible rfl); (try (first | (rw [if_pos (by omega)]; (try go_simp); (try with_reducible rfl)) | (rw [if_neg (by omega)]; (try go_simp); (try with_reducible rfl)))))
      try simp only [Act.put, zA, zB, zC]
      refine wpAnyR_takeQ (i := 12) (v := ?_) (some 45) rfl rfl (by kernel_rfl) (by kernel_rfl) (by kernel_rfl) (by kernel_rfl) (fun _ _ _ h => h) (Or.inl ⟨by rfl, ?_⟩) ?_
      rotate_left
      focus (intro wS hSw; (try dsimp only at hSw); go_simp; (try with_reducible rfl); (try (first | (rw [if_pos (by omega)]; (try go_simp); (try with_reducible rfl)) | (rw [if_neg (by omega)]; (try go_simp); (try with_reducible rfl)))))
      try simp only [Act.put, zA, zB, zC]
      try rw [hw]
      refine wpAnyR_n1 (i := 13) rfl (by kernel_rfl) ?_
      intro K' hK
      rw [if_pos (by rfl)]
      simp only [List.getElem_toArray, List.getElem_cons_succ, List.getElem_cons_zero]
      go_wp2_with fail
      refine (contains_val (w := wr.drew) (l := ints F) (ints_len F).symm (by rw [ints_len]; omega) HRK.out _ (by omega) (by omega) false (by rw [HINX.out, hbb])).mono ?_
      rintro e wb ⟨rfl, gb⟩
      go_wp2_with fail
      have q0 := (gb.cellEq _ _ hgw).trans y0
      have q1 := (gb.cellEq _ _ hgw).trans y1
      have qf := (gb.frozenEq _ _ hgw).trans yf1
      have hgwb : g < wb.heap.size := Nat.lt_of_lt_of_le hgw gb.size
      have gb' : Grew wr wb := (Grew.refl wr).drew.trans gb
      have hownb := HOWN.out.grew gb'
      have htb := HT.out.andGrew gb'
      refine hK.out _ _ (.inr (fun _ => ⟨q0, q1⟩)) ?_
      clear hK hS
      refine wpAnyR_takeQ (i := 14) (v := ?_) (some 47) rfl rfl (by kernel_rfl) (by kernel_rfl) (by kernel_rfl) (by kernel_rfl) (fun _ _ _ h => h) (Or.inl ⟨by rfl, ?_⟩) ?_
      rotate_left
      focus (intro wS hSw; (try dsimp only at hSw); go_simp; (try with_reducible rfl); (try (first | (rw [if_pos (by omega)]; (try go_simp); (try with_reducible rfl)) | (rw [if_neg (by omega)]; (try go_simp); (try with_reducible rfl)))))
      try simp only [Act.put, zA, zB, zC]
      refine wpAnyR_done (by kernel_rfl) ?_ _
      clear y0 y1 yf1
      have hkn : k < nn := by omega
      have HEK := Lib.hid (HEQ.out k hk HALL.out (.inr hbb))
      have hGb : Grew w wb := hG.turn htb (fun i hi => by omega)
      have hb0 : ((m : Int) == 0) = false := beq_eq_false_iff_ne.2 (by omega)
      clear hbb q0 q1 qf
      by_cases hmo : 16 - ((I.length : Int) + 1) < 1
      · have HE := Lib.hid (show extS l1 l2 (nn : Int) = ([], 14) from by rw [HEK.out]; unfold extG; rw [if_neg (by omega), if_pos hmo])
        have HGX := Lib.hid hGb
        clear hGb
        go_wp2_with fail
        go_returns
        rw [HE.out]
        exact ⟨_, rfl, OwnL.nil _ _ _ _, HGX.out⟩
      have HEK2 := Lib.hid (show extS l1 l2 (nn : Int) = if (extA I (xf, xc) l2 nn k).2 ≠ 0 then ([], (extA I (xf, xc) l2 nn k).2) else (joinS (ints (extL I (xf, xc) k ++ (extA I (xf, xc) l2 nn k).1)), 0) from by rw [HEK.out]; unfold extG; rw [if_neg (by omega), if_neg hmo])
      have hbL : ∀ r ∈ I ++ [(xf, xc + k)], r.1 + r.2 ≤ 128 := HBD.out k HALL.out
      obtain ⟨A5, c5, hv5, hrL, _, _, _⟩ := own_runs2 hownb (fun r hr => Nat.le_trans (hbL r hr) (by omega))
      rw [List.length_append, List.length_singleton] at hv5
      injection hv5 with e1 e2 e3
      subst e1; subst e3
      have hLl : (I ++ [(xf, xc + k)]).length = I.length + 1 := by simp
      have hM := minus_any AF (some ⟨g, 0, none⟩) cF cap (ints F) (ints (I ++ [(xf, xc + k)])) wb wb.heap.size (Nat.le_refl _) (by rw [ints_len]; omega) (by rw [ints_len]; omega) (RunsAt.wide (RunsAt.keep HRK.out (Nat.le_refl _) gb') gb'.size) hrL
      rw [ints_len, ints_len, hLl, show (normS fun i => memS (ints F) i && !memS (ints (I ++ [(xf, xc + k)])) i) = extF (extL I (xf, xc) k) (ints F) from rfl] at hM
      have hA0 : extA I (xf, xc) l2 nn k = allocS (memS (ints (extF (extL I (xf, xc) k) (ints F)))) (m : Int) (16 - ((I.length : Int) + 1)) := by unfold extA; rw [HF.out, hm]
      have hf2b : ∀ r ∈ extF (extL I (xf, xc) k) (ints F), r.1 + r.2 ≤ 128 := normS_bd _
      have hf2l : (extF (extL I (xf, xc) k) (ints F)).length ≤ 128 := normS_len _
      generalize extF (extL I (xf, xc) k) (ints F) = F2 at *
      have hab := alloc_bd (memS (ints F2)) (m : Int) (16 - ((I.length : Int) + 1))
      have hal := alloc_len (memS (ints F2)) (m : Int) (16 - ((I.length : Int) + 1))
      rw [← hA0] at hab hal
      have HALC := Lib.hid (fun A c w (h : RunsAt w w.heap.size A (ints F2)) => alloc_any A c (ints F2) w w.heap.size (Nat.le_refl _) (by rw [ints_len]; omega) h (m : Int) (by omega) (by omega) (16 - ((I.length : Int) + 1)))
      rw [← hA0] at HALC
      have HM := Lib.hid hM
      have HAB := Lib.hid hab
      clear hM hA0 hab e2 hLl hrL
      go_wp2_with fail
      refine HM.out.mono ?_
      rintro e wc ⟨v3, rfl, hown3, gc⟩
      obtain ⟨A3, c3, hv3, hr3, _, _, _⟩ := own_runs2 hown3 (fun r hr => Nat.le_trans (hf2b r hr) (by omega))
      subst hv3
      have hAL := HALC.out A3 c3 wc hr3
      rw [ints_len] at hAL
      have hownc := hownb.grew gc
      have hGc := hGb.trans gc
      clear HM HALC hown3 hr3 gc hGb hownb
      go_wp2_with fail
      refine hAL.mono ?_
      rintro e wd ⟨v4, rfl, hown4, gd⟩
      have hownd := hownc.grew gd
      have hGd := hGc.trans gd
      have hgsz := hGd.size
      obtain ⟨A4, c4, hv4, _, _, hl4⟩ := hown4.listAt
      rw [List.length_map] at hv4
      subst hv4
      clear hAL hownc hGc gd
      generalize extA I (xf, xc) l2 nn k = a at *
      obtain ⟨al, ae⟩ := a
      simp only at hal HAB hl4
      by_cases hae : ae = 0
      rotate_left
      · have HE := Lib.hid (show extS l1 l2 (nn : Int) = ([], ae) from by rw [HEK2.out]; exact if_pos hae)
        have hne : (ae != 0) = true := bne_iff_ne.2 hae
        have HGX := Lib.hid hGd
        clear hGd hae
        go_wp2_with fail
        go_returns
        rw [HE.out]
        exact ⟨_, rfl, OwnL.nil _ _ _ _, HGX.out⟩
      · have HE := Lib.hid (show extS l1 l2 (nn : Int) = (joinS (ints (I ++ [(xf, xc + k)] ++ al)), 0) from by rw [HEK2.out]; exact if_neg (fun h => h hae))
        subst hae
        have hLl : ((I ++ [(xf, xc + k)]).map rowN).length = I.length + 1 := by simp
        go_wp2_with (at_builtin; refine wpList_pushAll (by rfl) _ _ 29 rfl w.heap.size 65 2 16 _ Tryz.underlying29 info_run rfl (by decide) _ ((I ++ [(xf, xc + k)]).map rowN) (al.map rowN) (by rfl) hownd _ al.length _ (by rfl) (by rw [List.length_map]) (rowN_len al) hl4 (rowN_one al) (by rw [hLl]; omega) (by rw [hLl]; omega) hgsz ?_; intro v5 w5 hown5 hgr5 hat5)
        have g5 : Grew w w5 := Grew.own hGd hgr5 hownd.row_ge (Nat.le_refl _)
        rw [← List.map_append] at hown5
        have hb5 : ∀ r ∈ I ++ [(xf, xc + k)] ++ al, r.1 + r.2 ≤ 128 := fun r hr => (List.mem_append.1 hr).elim (hbL r) (HAB.out r)
        obtain ⟨A6, c6, hv6, hr6, _, _, _⟩ := own_runs2 hown5 (fun r hr => Nat.le_trans (hb5 r hr) (by omega))
        subst hv6
        have hjn := join_any A6 c6 (ints (I ++ [(xf, xc + k)] ++ al)) w5 w5.heap.size (Nat.le_refl _) (by rw [ints_len, List.length_append, List.length_append, List.length_singleton]; omega) hr6
        rw [ints_len] at hjn
        have HJN := Lib.hid hjn
        clear hjn hgr5 hat5 hown5 hownd hGd hl4 hown4 hr6
        go_wp2_with fail
        refine HJN.out.mono ?_
        rintro e w6 ⟨v6, rfl, hown6, g6⟩
        go_wp2_with fail
        go_returns
        rw [HE.out]
        exact ⟨_, rfl, hown6.mono g5.size, g5.trans g6⟩
end
end Go.Proofs.YtnlaogneceanoaaGreat
namespace Go.Proofs.YtnlaogneceanoaaGreat
set_option linter.unusedVariables false
set_option linter.unusedSimpArgs false
set_option linter.unusedSectionVars false
open Go.RowKit
theorem blk_runs {w : World} {g : Nat} {cs : Array Value} {l : List (Int × Int)} (hb : Blk w g 65 cs) (hc : cs.toList = (l.map runC).flatten) (hok : ∀ r ∈ l, okRun r) : RunsAt w w.heap.size (some ⟨g, 0, none⟩) l := by
  refine ⟨hok, fun _ => ⟨g, 0, rfl, hb.lt, fun j c hj i v hi => ?_⟩⟩
  have h := flatten_at (sz := 2) (rows := l.map runC) (fun r hr => by obtain ⟨x, _, rfl⟩ := List.mem_map.1 hr; rfl) j i c v hj hi
  rw [← hc] at h
  rw [hb.cell, Nat.zero_add, ← Array.getElem?_toList]
  exact h
section
variable {A : Option Addr} {c m : Nat} {l : List (Int × Int)} {w : World}
end
theorem extG_bd (I : List (Nat × Nat)) (x : Nat × Nat) (f : List (Int × Int)) (nn k : Nat) (hb : ∀ r ∈ extL I x k, r.1 + r.2 ≤ 128) : ∀ r ∈ (extG I x f nn k).1, r.1 + r.2 ≤ 128 := by
  unfold extG
  split
  · exact hb
  · split
    · intro r hr; cases hr
    · split
      · intro r hr; cases hr
      · exact joinS_bd _
/-- What Extend returns lies on the volume, and how many tracks there are of the last run. -/
theorem extS_cases (e f : List (Int × Int)) (n : Int) : (extS e f n = ([], 1)) ∨ ∃ I x k, joinS e = I ++ [x] ∧ 1 ≤ n ∧ k ≤ n.toNat ∧ (∀ j, j < k → memS (ints (extF (I ++ [x]) f)) (x.1 + x.2 + j) = true) ∧ (k = n.toNat ∨ memS (ints (extF (I ++ [x]) f)) (x.1 + x.2 + k) = false) ∧ extS e f n = extG I x f n.toNat k := by
  by_cases h1 : n < 1
  · exact .inl (by unfold extS; rw [if_pos (.inl h1)])
  · rcases last_cases (joinS e) with h0 | ⟨I, x, hL⟩
    · exact .inl (by unfold extS; rw [if_pos (.inr h0)])
    · obtain ⟨nn, rfl⟩ : ∃ nn : Nat, n = (nn : Int) := ⟨n.toNat, by omega⟩
      obtain ⟨k, hk, hall, hend⟩ : ∃ k, k ≤ nn ∧ (∀ j, j < k → memS (ints (extF (I ++ [x]) f)) (x.1 + x.2 + j) = true) ∧ (k = nn ∨ memS (ints (extF (I ++ [x]) f)) (x.1 + x.2 + k) = false) := by
        generalize memS (ints (extF (I ++ [x]) f)) = S
        clear h1
        induction nn with
        | zero => exact ⟨0, Nat.le_refl _, fun j hj => by omega, .inl rfl⟩
        | succ nn ih =>
          obtain ⟨k, hk, hall, hend⟩ := ih
          rcases hend with rfl | hend
          · cases hs : S (x.1 + x.2 + k) with
            | false => exact ⟨k, by omega, hall, .inr hs⟩
            | true =>
              refine ⟨k + 1, Nat.le_refl _, fun j hj => ?_, .inl rfl⟩
              by_cases hjk : j = k
              · subst hjk; exact hs
              · exact hall j (by omega)
          · exact ⟨k, by omega, hall, .inr hend⟩
      exact .inr ⟨I, x, k, hL, by omega, hk, hall, hend, extS_eq e f nn I x k hL (by omega) hk hall hend⟩
theorem extS_bd (e f : List (Int × Int)) (n : Int) : ∀ r ∈ (extS e f n).1, r.1 + r.2 ≤ 128 := by
  rcases extS_cases e f n with h | ⟨I, x, k, hL, _, _, hall, _, h⟩
  · rw [h]; intro r hr; cases hr
  · rw [h]
    exact extG_bd I x f _ k (ext_bd I x _ k (by rw [← hL]; exact joinS_bd e) hall)
end Go.Proofs.YtnlaogneceanoaaGreat
namespace Go.Proofs.YtnlaogneceanoaaGreat
set_option linter.unusedVariables false
set_option linter.unusedSimpArgs false
set_option linter.unusedSectionVars false
open Go.RowKit
theorem Blk.hold {w w' : World} {g : Nat} {t : TypeId} {cs : Array Value} (h : Blk w g t cs) (hg : Grew w w') : Blk w' g t cs := h.grew hg
end Go.Proofs.YtnlaogneceanoaaGreat
namespace Go.Proofs.YtnlaogneceanoaaGreat
set_option linter.unusedVariables false
set_option linter.unusedSimpArgs false
set_option linter.unusedSectionVars false
open Go.RowKit
theorem cntL_take_le (l : List (Nat × Nat)) (k : Nat) : cntL (l.take k) ≤ cntL l := by
  have := cntL_append (l.take k) (l.drop k)
  rw [List.take_append_drop] at this
  omega
section
variable {A : Option Addr} {c m : Nat} {l : List (Int × Int)} {w : World}
end
end Go.Proofs.YtnlaogneceanoaaGreat
namespace Go.Proofs.YtnlaogneceanoaaGreat
set_option linter.unusedVariables false
set_option linter.unusedSimpArgs false
set_option linter.unusedSectionVars false
open Go.RowKit
theorem takeR_cnt : ∀ (l : List (Nat × Nat)) (n : Nat), n ≤ cntL l → cntL (takeR l n) = n := by
  intro l
  induction l with
  | nil => intro n h; have h0 : n = 0 := by simpa [cntL] using h
           subst h0; rfl
  | cons r l ih =>
    intro n h
    have e : cntL (r :: l) = r.2 + cntL l := by simp [cntL]
    rw [takeR]
    split
    · rename_i h0; subst h0; rfl
    · have e2 : cntL ((r.1, min r.2 n) :: takeR l (n - min r.2 n)) = min r.2 n + cntL (takeR l (n - min r.2 n)) := by simp [cntL]
      rw [e2, ih _ (by omega)]
      omega
theorem seqN_sub (a b m : Nat) (h : m ≤ b) : (seqN (a, m)).Sublist (seqN (a, b)) := by
  have : seqN (a, m) = (seqN (a, b)).take m := by rw [seqN_take, Nat.min_eq_left h]
  rw [this]
  exact List.take_sublist _ _
theorem seqL_cons (r : Nat × Nat) (l : List (Nat × Nat)) : seqL (r :: l) = seqN r ++ seqL l := rfl
theorem takeR_sub : ∀ (l : List (Nat × Nat)) (n : Nat), (seqL (takeR l n)).Sublist (seqL l) := by
  intro l
  induction l with
  | nil => intro n; exact List.Sublist.refl _
  | cons r l ih =>
    intro n
    rw [takeR]
    split
    · exact List.nil_sublist _
    · rw [seqL_cons, seqL_cons]
      exact (seqN_sub r.1 r.2 _ (Nat.min_le_left _ _)).append (ih _)
theorem seqL_norm (S : Nat → Bool) : seqL (normS S) = (List.range 128).filter S := by rw [← seqS_ints _ (normS_bd S), seqS_normS]
theorem seqL_perm {a b : List (Nat × Nat)} (h : a.Perm b) : (seqL a).Perm (seqL b) := by unfold seqL; exact h.flatMap_right _
theorem sizeS_ints (l : List (Nat × Nat)) (h : ∀ r ∈ l, r.1 + r.2 ≤ 128) : sizeS (ints l) = cntL l := by
  rw [← seqS_len, seqS_ints l h]
  clear h
  induction l with
  | nil => rfl
  | cons r l ih => rw [seqL_cons, List.length_append, ih, seqN_len]; simp [cntL]
theorem normS_false {S : Nat → Bool} (h : ∀ i, i < 128 → S i = false) : normS S = [] := by
  have e : seqL (normS S) = [] := by
    rw [seqL_norm, List.filter_eq_nil_iff]
    intro i hi
    rw [h i (List.mem_range.1 hi)]; simp
  cases hN : normS S with
  | nil => rfl
  | cons r l =>
    rw [hN, seqL_cons] at e
    have h1 := (normS_cnt S r (by rw [hN]; exact List.mem_cons_self ..)).1
    have h2 := congrArg List.length e
    rw [List.length_append, seqN_len] at h2
    simp at h2
    omega
/-- The parts that are taken out of a set's runs are tracks of it, each once. -/
theorem part_ok (S : Nat → Bool) (x : List (Nat × Nat)) (hb : ∀ r ∈ x, r.1 + r.2 ≤ 128) (hs : (seqL x).Sublist (seqL (sortS (normS S)))) :
    (seqS (ints x)).Nodup ∧ ∀ i, memS (ints x) i = true → S i = true := by
  have hp := seqL_perm (sortS_perm _ (normS_cnt S) (normS_asc S))
  rw [seqS_ints x hb]
  have hnd : (seqL (normS S)).Nodup := by rw [seqL_norm]; exact List.nodup_range.filter _
  refine ⟨((hp.nodup_iff).1 hnd).sublist hs, fun i hi => ?_⟩
  have h1 : i ∈ seqL x := by rw [← seqS_ints x hb]; exact (mem_seqS _ i).2 hi
  have h2 := hp.symm.subset (hs.subset h1)
  rw [seqL_norm] at h2
  exact (List.mem_filter.1 h2).2
theorem alloc_ok (l : List (Int × Int)) (n most : Int) (h1 : 1 ≤ n) (h2 : 1 ≤ most) :
    (∃ x, allocS (memS l) n most = (x, 0) ∧ ((x.length : Nat) : Int) ≤ most ∧ ((sizeS (ints x) : Nat) : Int) = n ∧ (seqS (ints x)).Nodup ∧ (∀ i, memS (ints x) i = true → memS l i = true) ∧ ∀ r ∈ x, r.1 + r.2 ≤ 128) ∨
    (allocS (memS l) n most = ([], 14) ∧ ((cntL ((sortS (normS (memS l))).take most.toNat) : Nat) : Int) < n) := by
  have hbd := alloc_bd (memS l) n most
  have hsd := sort_bd (memS l)
  unfold allocS at hbd ⊢
  rw [if_neg (show ¬ (n < 1 ∨ most < 1) by omega)] at hbd ⊢
  split
  · rename_i hb
    rw [if_pos hb] at hbd
    left
    rcases bestF_mem n (normS (memS l)) with h | ⟨hm, h⟩
    · rw [h] at hb; exact absurd rfl hb
    · have hb1 := normS_bd _ _ hm
      have hx : ∀ r ∈ [((bestF n (normS (memS l))).1, n.toNat)], r.1 + r.2 ≤ 128 := hbd
      obtain ⟨i1, i2⟩ := List.append_of_mem ((mem_sortS _ (normS_cnt (memS l)) _).2 hm)
      have hsub : (seqL [((bestF n (normS (memS l))).1, n.toNat)]).Sublist (seqL (sortS (normS (memS l)))) := by
        obtain ⟨i2, e⟩ := i2
        rw [e, seqL_append, seqL_one, seqL_cons]
        exact ((show (seqN ((bestF n (normS (memS l))).1, n.toNat)).Sublist (seqN (bestF n (normS (memS l)))) from seqN_sub (bestF n (normS (memS l))).1 (bestF n (normS (memS l))).2 n.toNat (by omega)).trans (List.sublist_append_left _ _)).trans (List.sublist_append_right _ _)
      obtain ⟨p1, p2⟩ := part_ok (memS l) _ hx hsub
      refine ⟨_, rfl, by simpa using h2, ?_, p1, p2, hx⟩
      rw [sizeS_ints _ hx, cntL_one]
      omega
  · split
    · rename_i hc
      right
      refine ⟨rfl, ?_⟩
      rcases hc with hc | hc
      · have := cntL_take_le (sortS (normS (memS l))) most.toNat
        omega
      · by_cases h0 : n.toNat - cntL ((sortS (normS (memS l))).take most.toNat) = 0
        · have e := takeR_stop ((sortS (normS (memS l))).drop most.toNat) _ _ h0
          rw [List.take_append_drop] at e
          rw [e] at hc
          have h3 := takeR_len ((sortS (normS (memS l))).take most.toNat) n.toNat
          have h4 := List.length_take_le most.toNat (sortS (normS (memS l)))
          omega
        · omega
    · rename_i hb hc
      rw [if_neg hb, if_neg hc] at hbd
      left
      have hc1 : n.toNat - cntL (sortS (normS (memS l))) = 0 := Decidable.not_not.1 (fun h => hc (.inl h))
      have hc2 : ¬ most < ((takeR (sortS (normS (memS l))) n.toNat).length : Int) := fun h => hc (.inr h)
      obtain ⟨p1, p2⟩ := part_ok (memS l) _ hbd (takeR_sub _ _)
      refine ⟨_, rfl, by omega, ?_, p1, p2, hbd⟩
      have h6 := takeR_cnt (sortS (normS (memS l))) n.toNat (by omega)
      have h7 := sizeS_ints _ hbd
      rw [h7]
      show ((cntL (takeR _ _) : Nat) : Int) = n
      rw [h6]
      omega
end Go.Proofs.YtnlaogneceanoaaGreat
namespace Go.Proofs.YtnlaogneceanoaaGreat
set_option linter.unusedVariables false
set_option linter.unusedSimpArgs false
set_option linter.unusedSectionVars false
open Go.RowKit
section
variable {A1 A2 : Option Addr} {c1 c2 n1 n2 : Nat} {l1 l2 : List (Int × Int)} {w : World}
set_option maxRecDepth 100000 in
set_option maxHeartbeats 1000000 in
theorem rminus_val (hn1 : n1 = l1.length) (hn2 : n2 = l2.length) (hl1 : l1.length ≤ 1000000) (hl2 : l2.length ≤ 1000000) (hr1 : RunsAt w w.heap.size A1 l1) (hr2 : RunsAt w w.heap.size A2 l2) (k : List (Int × Int)) (hk : ints (normS fun i => memS l1 i && !memS l2 i) = k) :
    Calls Tryz.prog 114 #[.slice A1 n1 c1, .slice A2 n2 c2] w fun e w' => ∃ A c, e = .returned (.slice A k.length c) ∧ RunsAt w' w'.heap.size A k ∧ Grew w w' := by
  have HC := Lib.hid (setone_val (c1 := c1) (c2 := c2) hn1 hn2 hl1 hl2 hr1 hr2 k hk)
  clear hk hr1 hr2 hn1 hn2 hl1 hl2
  go_enter Tryz.func114, Tryz.ntmps114
  go_wp2_with fail
  refine HC.out.mono ?_
  rintro e w1 ⟨A', c', rfl, r, g⟩
  go_wp2_with fail
  go_ret
  exact ⟨_, _, rfl, r, g⟩
end
def relA (l : List (Int × Int)) (keep : Int) : List (Int × Int) := if keep < 1 ∨ (sizeS l : Int) < keep then [] else ints (joinS (ints (cutA l keep.toNat)))
def relE (l : List (Int × Int)) (keep : Int) : Int := if keep < 1 ∨ (sizeS l : Int) < keep then 2 else 0
theorem nil_runs (w : World) : RunsAt w w.heap.size none [] := ⟨fun r hr => (List.not_mem_nil hr).elim, fun h => absurd h (by decide)⟩
section
variable {A : Option Addr} {c m : Nat} {l : List (Int × Int)} {w : World}
end
section
variable {A1 A2 : Option Addr} {c1 c2 m1 m2 : Nat} {l1 l2 : List (Int × Int)} {w : World}
end
end Go.Proofs.YtnlaogneceanoaaGreat
namespace Go.Proofs.YtnlaogneceanoaaGreat
set_option linter.unusedVariables false
set_option linter.unusedSimpArgs false
set_option linter.unusedSectionVars false
open Go.RowKit
def freeB (first last : Int) (i : Nat) : Bool := decide (first ≤ (i : Int) ∧ (i : Int) < last)
def freeS (first last : Int) (l : List (Int × Int)) : List (Int × Int) := ints (normS fun i => freeB first last i && !memS l i)
theorem mem_one (a c : Nat) (h : a + c ≤ 128) (hc : 0 < c) (i : Nat) : memS [((a : Int), (c : Int))] i = decide (a ≤ i ∧ i < a + c) := by
  show (inS (clipS ((a : Int), (c : Int))) i || false) = _
  rw [clipS_nat a c h hc, Bool.or_false]
  rfl
section
variable {A : Option Addr} {c m : Nat} {l : List (Int × Int)} {w : World}
set_option maxRecDepth 100000 in
set_option maxHeartbeats 4000000 in
theorem free_val (hn : m = l.length) (hl : l.length ≤ 1000) (hr : RunsAt w w.heap.size A l) (first last : Int) (f0 : -9223372036854775808 ≤ first) (f1 : first ≤ 9223372036854775807) (t0 : -9223372036854775808 ≤ last) (t1 : last ≤ 9223372036854775807) (k : List (Int × Int)) (hk : freeS first last l = k) :
    Calls Tryz.prog 59 #[.int .i64 first, .int .i64 last, .slice A m c] w fun e w' => ∃ A c, e = .returned (.slice A k.length c) ∧ RunsAt w' w'.heap.size A k ∧ Grew w w' := by
  subst hn
  have hG := Grew.refl w
  obtain ⟨a, ha⟩ : ∃ a : Nat, max (0 : Int) first = (a : Int) := ⟨first.toNat, by omega⟩
  obtain ⟨b, hb⟩ : ∃ b : Int, min (128 : Int) last = b := ⟨_, rfl⟩
  by_cases h1 : b ≤ (a : Int)
  · have hk0 : k = [] := by
      rw [← hk]
      unfold freeS
      rw [normS_false (fun i hi => by
        show (freeB first last i && !memS l i) = false
        unfold freeB
        rw [decide_eq_false (by omega), Bool.false_and])]
      rfl
    subst hk0
    clear hk
    go_enter Tryz.func59, Tryz.ntmps59
    go_wp2_with fail
    go_ret
    exact ⟨none, 0, rfl, nil_runs _, hG⟩
  · obtain ⟨d, hd⟩ : ∃ d : Nat, b - (a : Int) = (d : Int) := ⟨(b - a).toNat, by omega⟩
    have hd0 : 0 < d := by omega
    have hd1 : a + d ≤ 128 := by omega
    have HK := Lib.hid (show ints (normS fun i => memS [((a : Int), (d : Int))] i && !memS l i) = k from by
      rw [← hk]
      unfold freeS
      congr 1
      refine normS_congr (fun i hi => ?_)
      show (memS [((a : Int), (d : Int))] i && !memS l i) = (freeB first last i && !memS l i)
      rw [mem_one a d hd1 hd0]
      unfold freeB
      congr 1
      rw [decide_eq_decide]
      omega)
    have r8 : RunsAt (w.alloc (.cells #[.int .i64 (a : Int), .int .i64 (d : Int)] 65)) (w.alloc (.cells #[.int .i64 (a : Int), .int .i64 (d : Int)] 65)).heap.size (some ⟨w.heap.size, 0, none⟩) [((a : Int), (d : Int))] := blk_runs (Blk.new w _ _ rfl) rfl (by intro r hr; rw [List.mem_singleton.1 hr]; unfold okRun; simp only; omega)
    have gal := (Grew.refl w).alloc (.cells #[.int .i64 (a : Int), .int .i64 (d : Int)] 65)
    replace hr := hr.hold gal
    have hG := gal
    have hw := (show IntKind.i64.wrap (b - (a : Int)) = (d : Int) from by rw [IntKind.wrap_i64]; omega)
    clear gal hk
    go_enter Tryz.func59, Tryz.ntmps59
    go_wp2_with fail
    refine (minus_val rfl rfl (by simp) (by omega) r8 hr k HK.out).mono ?_
    rintro e ws ⟨A3, c3, rfl, r3, gs⟩
    go_wp2_with fail
    go_ret
    exact ⟨_, _, rfl, r3, hG.trans gs⟩
end
end Go.Proofs.YtnlaogneceanoaaGreat
namespace Go.Proofs.YtnlaogneceanoaaGreat
set_option linter.unusedVariables false
set_option linter.unusedSimpArgs false
set_option linter.unusedSectionVars false
open Go.RowKit
def oneL (first last : Int) (j : Nat) : List (Nat × Nat) := ((List.range j).filter (freeB first last)).map fun t => (t, 1)
theorem oneL_succ (first last : Int) (j : Nat) : oneL first last (j + 1) = oneL first last j ++ (if freeB first last j = true then [(j, 1)] else []) := by
  unfold oneL
  rw [List.range_succ, List.filter_append, List.map_append]
  congr 1
  cases h : freeB first last j <;> simp [h]
theorem oneL_len (first last : Int) (j : Nat) : (oneL first last j).length ≤ j := by
  unfold oneL
  rw [List.length_map]
  have := List.length_filter_le (freeB first last) (List.range j)
  rwa [List.length_range] at this
theorem oneL_bd (first last : Int) (j : Nat) : ∀ r ∈ oneL first last j, r.1 + r.2 ≤ j := by
  intro r hr
  unfold oneL at hr
  obtain ⟨t, ht, rfl⟩ := List.mem_map.1 hr
  have := List.mem_range.1 (List.mem_filter.1 ht).1
  show t + 1 ≤ j
  omega
theorem seqL_ones (l : List Nat) : seqL (l.map fun t => (t, 1)) = l := by
  induction l with
  | nil => rfl
  | cons t l ih =>
    rw [List.map_cons, seqL_cons, ih]
    rfl
theorem oneL_mem (first last : Int) (i : Nat) (hi : i < 128) : memS (ints (oneL first last 128)) i = freeB first last i := by
  have h1 := mem_seqS (ints (oneL first last 128)) i
  rw [seqS_ints _ (oneL_bd first last 128)] at h1
  unfold oneL at h1
  rw [seqL_ones] at h1
  cases h : freeB first last i with
  | true => exact h1.1 (List.mem_filter.2 ⟨List.mem_range.2 hi, h⟩)
  | false =>
    cases h2 : memS (ints (oneL first last 128)) i with
    | false => rfl
    | true =>
      have := (List.mem_filter.1 (h1.2 h2)).2
      rw [h] at this; cases this
section
variable {A : Option Addr} {c m : Nat} {l : List (Int × Int)} {w : World}
set_option maxRecDepth 100000 in
set_option maxHeartbeats 4000000 in
theorem rfree_val (hn : m = l.length) (hl : l.length ≤ 1000) (hr : RunsAt w w.heap.size A l) (first last : Int) (f0 : -9223372036854775808 ≤ first) (f1 : first ≤ 9223372036854775807) (t0 : -9223372036854775808 ≤ last) (t1 : last ≤ 9223372036854775807) (k : List (Int × Int)) (hk : freeS first last l = k) :
    Calls Tryz.prog 60 #[.int .i64 first, .int .i64 last, .slice A m c] w fun e w' => ∃ A c, e = .returned (.slice A k.length c) ∧ RunsAt w' w'.heap.size A k ∧ Grew w w' := by
  subst hn
  have HK := Lib.hid (show ints (normS fun i => memS (ints (oneL first last 128)) i && !memS l i) = k from by
    rw [← hk]
    unfold freeS
    congr 1
    exact normS_congr (fun i hi => by rw [oneL_mem first last i hi]))
  have HR := Lib.hid hr
  clear hk hr
  go_enter Tryz.func60, Tryz.ntmps60
  go_wp2_with fail
  go_loopg [7, 8] 128 (fun gk ov i wr => ∃ j : Nat, j ≤ 128 ∧ gk = 128 - j ∧ i = .int .i64 (j : Int) ∧ OwnL wr w.heap.size 65 2 ov ((oneL first last j).map rowN) ∧ Grew w wr)
  case atStart => exact ⟨0, by omega, by omega, rfl, OwnL.empty _ _ _ _ (Nat.le_refl _) rfl, by (repeat' first | (with_reducible exact Grew.refl _) | (with_reducible assumption) | (with_reducible refine Grew.alloc ?_ _) | (with_reducible refine Grew.drew ?_) | (with_reducible refine Grew.drewN ?_ _) | (with_reducible refine Grew.setRow ?_ (by first | (simp; done) | (simp; omega) | omega) _) | (with_reducible refine Grew.setCell ?_ (by first | (simp; done) | (simp; omega) | omega) _) | ((with_reducible apply Grew.trans); rotate_left; (with_reducible assumption)) | ((with_reducible apply Grew.turn); rotate_left; (with_reducible assumption); (focus (intro i hi; first | omega | (simp at hi; omega)))) | fail)⟩
  case round =>
    obtain ⟨j, hj, hgk, rfl, hown, hg⟩ := hrel
    have HGK := Lib.hid hgk
    clear hgk
    have hol := oneL_len first last j
    have hgs := hg.size
    by_cases hlt : j < 128
    · have HSU := Lib.hid (oneL_succ first last j)
      by_cases hab : first ≤ (j : Int) ∧ (j : Int) < last
      · have HF := Lib.hid (HSU.out.trans (by rw [if_pos (show freeB first last j = true from decide_eq_true hab)]))
        obtain ⟨ha, hb⟩ := hab
        generalize oneL first last j = out at *
        clear HSU
        go_wp2_with (at_builtin; refine wpList_push rfl _ _ 29 rfl w.heap.size 65 2 16 _ Tryz.underlying29 info_run rfl (by decide) wr _ (out.map rowN) (rowN (j, 1)) (by rfl) rfl rfl hown (by first | rfl | (simp; done)) rfl rfl (by rw [List.length_map]; omega) (by rw [List.length_map]; omega) hg.size ?_; intro v' w5 hown3 hgr hbk hsz)
        go_roundg (128 - (j + 1))
        case measure => rw [HGK.out]; omega
        case rel => exact ⟨j + 1, by omega, by omega, by go_num, by rw [HF.out, List.map_append]; exact hown3, hgr _ hg (Nat.le_refl _)⟩
      · have HF := Lib.hid (HSU.out.trans (by rw [if_neg (by unfold freeB; rw [decide_eq_false hab]; simp), List.append_nil]))
        clear HSU
        by_cases ha : first ≤ (j : Int)
        · have hb : ¬ (j : Int) < last := fun h => hab ⟨ha, h⟩
          clear hab
          go_wp2_with fail
          go_roundg (128 - (j + 1))
          case measure => rw [HGK.out]; omega
          case rel => exact ⟨j + 1, by omega, by omega, by go_num, by rw [HF.out]; exact hown, hg⟩
        · clear hab
          go_wp2_with fail
          go_roundg (128 - (j + 1))
          case measure => rw [HGK.out]; omega
          case rel => exact ⟨j + 1, by omega, by omega, by go_num, by rw [HF.out]; exact hown, hg⟩
    · obtain rfl : j = 128 := by omega
      have hbd := oneL_bd first last 128
      obtain ⟨A', c', hv, hr', _, _, _⟩ := own_runs2 hown (fun r hr => Nat.le_trans (hbd r hr) (by omega))
      subst hv
      have hrl := HR.out.hold hg
      have hm := rminus_val (c1 := c') (c2 := c) rfl rfl (by rw [ints_len]; omega) (by omega) hr' hrl k HK.out
      rw [ints_len] at hm
      have HM := Lib.hid hm
      clear hm hown hr' hrl hbd
      go_wp2_with fail
      refine HM.out.mono ?_
      rintro e w4 ⟨A4, c4, rfl, r4, g4⟩
      go_wp2_with fail
      go_ret
      exact ⟨_, _, rfl, r4, hg.trans g4⟩
end
end Go.Proofs.YtnlaogneceanoaaGreat
namespace Go.Proofs.YtnlaogneceanoaaGreat
set_option linter.unusedVariables false
set_option linter.unusedSimpArgs false
set_option linter.unusedSectionVars false
open Go.RowKit
structure Tab where
  name : ByteArray
  tracks : Int
  labels : List Lab
def tabZ : Tab := ⟨⟨#[]⟩, 0, []⟩
instance : Inhabited Tab := ⟨tabZ⟩
def emL (l : Lab) : Bool := eqL l labZ
def okL (t : Int) (l : Lab) : Bool := emL l || validL l t
def keyL (l : Lab) : Int × Bool := (l.id, decide (0 < l.unit))
def keysL (ls : List Lab) : List (Int × Bool) := (ls.filter fun l => !emL l).map keyL
def extsL (ls : List Lab) : List (Int × Int) := ls.flatMap (·.ext)
def headB (t : Tab) : Bool := okT t.tracks && nameOk t.name && decide ((t.labels.length : Int) = slotsS t.tracks)
def validT (t : Tab) : Bool := headB t && (t.labels.all (okL t.tracks) && decide (keysL t.labels).Nodup && decide (seqS (extsL t.labels)).Nodup)
/-- A label in memory, with its extents' slice. -/
structure LabE where
  A : Option Addr
  c : Nat
  l : Lab
instance : Inhabited LabE := ⟨⟨none, 0, labZ⟩⟩
def labC (x : LabE) : List Value := [.int .i64 x.l.id, .int .i64 x.l.unit, .string x.l.name, .string x.l.note, .slice x.A x.l.ext.length x.c]
/-- A table in memory: its labels lie in the slice A. -/
structure TabAt (w : World) (A : Option Addr) (c : Nat) (xs : List LabE) (T : Tab) : Prop where
  lab : ∀ x ∈ xs, LabAt w x.A x.c x.l
  rows : ListAt w w.heap.size 5 A (xs.map labC)
  len : xs.length ≤ c
  cap : c ≤ 9223372036854775807
  eq : xs.map (·.l) = T.labels
  tr0 : -9223372036854775808 ≤ T.tracks
  tr1 : T.tracks ≤ 9223372036854775807
  name : T.name.size ≤ 9223372036854775807
structure SmallT (T : Tab) : Prop where
  len : T.labels.length ≤ 1000
  ext : ∀ l ∈ T.labels, l.ext.length ≤ 1000
theorem TabAt.hold {w w' : World} {A : Option Addr} {c : Nat} {xs : List LabE} {T : Tab} (h : TabAt w A c xs T) (hg : Grew w w') : TabAt w' A c xs T :=
  ⟨fun x hx => (h.lab x hx).hold hg, (h.rows.keep (Nat.le_refl _) hg).mono hg.size, h.len, h.cap, h.eq, h.tr0, h.tr1, h.name⟩
theorem TabAt.xlen {w : World} {A : Option Addr} {c : Nat} {xs : List LabE} {T : Tab} (h : TabAt w A c xs T) : xs.length = T.labels.length := by rw [← h.eq, List.length_map]
theorem TabAt.zero (w : World) : TabAt w none 0 [] tabZ := ⟨by simp, fun h => absurd h (by simp), Nat.le_refl _, by omega, rfl, by decide, by decide, by decide⟩
theorem TabAt.get {w : World} {A : Option Addr} {c : Nat} {xs : List LabE} {T : Tab} (h : TabAt w A c xs T) {k : Nat} (hk : k < xs.length) : T.labels[k]? = some xs[k].l := by
  rw [← h.eq, List.getElem?_map, List.getElem?_eq_getElem hk]; rfl
theorem TabAt.at_ {w : World} {A : Option Addr} {c : Nat} {xs : List LabE} {T : Tab} (h : TabAt w A c xs T) {k : Nat} (hk : k < T.labels.length) :
    ∃ b off B d l, A = some ⟨b, off, none⟩ ∧ b < w.heap.size ∧ xs[k]? = some ⟨B, d, l⟩ ∧ T.labels[k] = l ∧ LabAt w B d l ∧
      w.cell? ⟨b, off + k * 5, none⟩ = some (.int .i64 l.id) ∧ w.cell? ⟨b, off + k * 5 + 1, none⟩ = some (.int .i64 l.unit) ∧ w.cell? ⟨b, off + k * 5 + 2, none⟩ = some (.string l.name) ∧ w.cell? ⟨b, off + k * 5 + 3, none⟩ = some (.string l.note) ∧ w.cell? ⟨b, off + k * 5 + 4, none⟩ = some (.slice B l.ext.length d) := by
  have hx : k < xs.length := by rw [h.xlen]; exact hk
  obtain ⟨b, off, e, hb, hc⟩ := h.rows (by rw [List.length_map]; omega)
  have hg := h.get hx
  rw [List.getElem?_eq_getElem hk] at hg
  injection hg with hg
  have hl := h.lab xs[k] (List.getElem_mem hx)
  have hr : (xs.map labC)[k]? = some (labC xs[k]) := by rw [List.getElem?_map, List.getElem?_eq_getElem hx]; rfl
  have hcc := hc k _ hr
  have hxe := List.getElem?_eq_getElem hx
  rcases hv : xs[k] with ⟨B, d, l⟩
  rw [hv] at hcc hg hl hxe
  exact ⟨b, off, B, d, l, e, hb, hxe, hg, hl, hcc 0 _ rfl, hcc 1 _ rfl, hcc 2 _ rfl, hcc 3 _ rfl, hcc 4 _ rfl⟩
theorem TabAt.okruns {w : World} {A : Option Addr} {c : Nat} {xs : List LabE} {T : Tab} (h : TabAt w A c xs T) : ∀ r ∈ extsL T.labels, okRun r := by
  intro r hr
  unfold extsL at hr
  obtain ⟨l, hl, hr⟩ := List.mem_flatMap.1 hr
  rw [← h.eq] at hl
  obtain ⟨x, hx, rfl⟩ := List.mem_map.1 hl
  exact (h.lab x hx).runs.1 r hr
theorem keysL_snoc (ls : List Lab) (k : Nat) (h : k < ls.length) : keysL (ls.take (k + 1)) = keysL (ls.take k) ++ (if emL ls[k] = true then [] else [keyL ls[k]]) := by
  unfold keysL
  rw [List.take_succ_eq_append_getElem h, List.filter_append, List.map_append]
  congr 1
  cases hm : emL ls[k] <;> simp [hm]
theorem extsL_snoc (ls : List Lab) (k : Nat) (h : k < ls.length) : extsL (ls.take (k + 1)) = extsL (ls.take k) ++ ls[k].ext := by
  unfold extsL
  rw [List.take_succ_eq_append_getElem h, List.flatMap_append]
  simp
theorem emL_iff (l : Lab) : emL l = true ↔ l = labZ := eqL_iff l labZ
theorem emL_ext (l : Lab) (h : emL l = true) : l.ext = [] := by rw [(emL_iff l).1 h]; rfl
theorem validL_parts (l : Lab) (t : Int) (h : validL l t = true) : okT t = true ∧ idB l = true ∧ txB l = true ∧ cnB l = true ∧ jnB l = true ∧ inB l t = true := by
  unfold validL at h
  simp only [Bool.and_eq_true] at h
  exact ⟨h.1, h.2.1, h.2.2.1, h.2.2.2.1, h.2.2.2.2.1, h.2.2.2.2.2⟩
theorem validL_ids (l : Lab) (t : Int) (h : validL l t = true) : 1 ≤ l.id ∧ 0 ≤ l.unit ∧ 1 ≤ l.ext.length ∧ l.ext.length ≤ 16 := by
  obtain ⟨_, h1, _, h2, _⟩ := validL_parts l t h
  unfold idB at h1
  unfold cnB at h2
  simp at h1 h2
  omega
theorem okL_ext (l : Lab) (t : Int) (h : okL t l = true) : l.ext.length ≤ 16 ∧ 0 ≤ l.unit := by
  unfold okL at h
  rw [Bool.or_eq_true] at h
  rcases h with h | h
  · rw [(emL_iff l).1 h]; decide
  · have := validL_ids l t h; omega
theorem validT_false_head (T : Tab) (h : headB T = false) : validT T = false := by unfold validT; rw [h]; rfl
theorem validT_false_lab (T : Tab) (k : Nat) (hk : k < T.labels.length) (h : okL T.tracks T.labels[k] = false) : validT T = false := by
  unfold validT
  have : T.labels.all (okL T.tracks) = false := by
    rw [List.all_eq_false]
    exact ⟨T.labels[k], List.getElem_mem hk, by rw [h]; simp⟩
  rw [this]; simp
theorem validT_false_key (T : Tab) (h : ¬ (keysL T.labels).Nodup) : validT T = false := by
  unfold validT
  rw [decide_eq_false h]; simp
theorem validT_of (T : Tab) (h1 : headB T = true) (h2 : T.labels.all (okL T.tracks) = true) (h3 : (keysL T.labels).Nodup) : validT T = decide (seqS (extsL T.labels)).Nodup := by
  unfold validT
  rw [h1, h2, decide_eq_true h3]; rfl
theorem keysL_take_nodup (ls : List Lab) (k : Nat) (h : (keysL ls).Nodup) : (keysL (ls.take k)).Nodup := by
  have : keysL ls = keysL (ls.take k) ++ keysL (ls.drop k) := by
    unfold keysL
    conv => lhs; rw [← List.take_append_drop k ls]
    rw [List.filter_append, List.map_append]
  rw [this] at h
  exact (List.nodup_append.1 h).1
/-- What is known of a valid table. -/
structure GoodT (T : Tab) : Prop where
  tr : okT T.tracks = true
  nm : nameOk T.name = true
  len : (T.labels.length : Int) = slotsS T.tracks
  ok : ∀ l ∈ T.labels, emL l = true ∨ validL l T.tracks = true
  keys : (keysL T.labels).Nodup
  seq : (seqS (extsL T.labels)).Nodup
theorem validT_iff (T : Tab) : validT T = true ↔ GoodT T := by
  unfold validT headB
  constructor
  · intro h
    simp only [Bool.and_eq_true, decide_eq_true_eq, List.all_eq_true] at h
    obtain ⟨⟨⟨h1, h2⟩, h3⟩, ⟨h4, h5⟩, h6⟩ := h
    exact ⟨h1, h2, h3, fun l hl => by have := h4 l hl; unfold okL at this; rwa [Bool.or_eq_true] at this, h5, h6⟩
  · intro ⟨h1, h2, h3, h4, h5, h6⟩
    simp only [Bool.and_eq_true, decide_eq_true_eq, List.all_eq_true]
    exact ⟨⟨⟨h1, h2⟩, h3⟩, ⟨fun l hl => by unfold okL; rw [Bool.or_eq_true]; exact h4 l hl, h5⟩, h6⟩
theorem GoodT.small {T : Tab} (h : GoodT T) : T.labels.length ≤ 31 ∧ ∀ l ∈ T.labels, l.ext.length ≤ 16 ∧ 0 ≤ l.unit := by
  constructor
  · have h1 := h.len
    have h2 := ttS_bd T.tracks
    unfold slotsS at h1
    omega
  · intro l hl
    refine okL_ext l T.tracks ?_
    unfold okL
    rw [Bool.or_eq_true]
    exact h.ok l hl
theorem extsL_len (ls : List Lab) (m : Nat) (h : ∀ l ∈ ls, l.ext.length ≤ m) : (extsL ls).length ≤ ls.length * m := by
  induction ls with
  | nil => simp [extsL]
  | cons x ls ih =>
    have h1 := h x (List.mem_cons_self ..)
    have h2 := ih (fun y hy => h y (List.mem_cons_of_mem _ hy))
    have : extsL (x :: ls) = x.ext ++ extsL ls := by simp [extsL]
    rw [this, List.length_append, List.length_cons, Nat.succ_mul]
    omega
theorem GoodT.exts {T : Tab} (h : GoodT T) : (extsL T.labels).length ≤ 496 := by
  have := extsL_len T.labels 16 (fun l hl => (h.small.2 l hl).1)
  have := h.small.1
  omega
/-- The free tracks of a table. -/
def freeT (T : Tab) : List (Int × Int) := if validT T = true then freeS (ttS T.tracks) T.tracks (extsL T.labels) else []
theorem freeT_len (T : Tab) : (freeT T).length ≤ 128 := by
  unfold freeT
  split
  · unfold freeS; rw [ints_len]; exact normS_len _
  · simp
/-- Where a label is. -/
def hitL (id unit : Int) (l : Lab) : Bool := !(id == 0) && (l.id == id) && (l.unit == unit)
def idxP (p : Lab → Bool) (ls : List Lab) : Int := match ls.findIdx? p with | some i => (i : Int) | none => -1
theorem idxP_hit (p : Lab → Bool) (ls : List Lab) (k : Nat) (hk : k < ls.length) (h : p ls[k] = true) (hn : ∀ j (hj : j < ls.length), j < k → p ls[j] = false) : idxP p ls = (k : Int) := by
  unfold idxP
  rw [List.findIdx?_eq_some_iff_getElem.2 ⟨hk, h, fun j hj => by rw [hn j (by omega) hj]; simp⟩]
theorem idxP_none (p : Lab → Bool) (ls : List Lab) (hn : ∀ j (hj : j < ls.length), p ls[j] = false) : idxP p ls = -1 := by
  unfold idxP
  rw [List.findIdx?_eq_none_iff.2 (fun l hl => by obtain ⟨j, hj, rfl⟩ := List.getElem_of_mem hl; exact hn j hj)]
theorem idxP_cases (p : Lab → Bool) (ls : List Lab) : (∃ (k : Nat) (hk : k < ls.length), idxP p ls = (k : Int) ∧ p ls[k] = true ∧ ∀ j (hj : j < ls.length), j < k → p ls[j] = false) ∨ (idxP p ls = -1 ∧ ∀ l ∈ ls, p l = false) := by
  unfold idxP
  cases h : ls.findIdx? p with
  | none => exact .inr ⟨rfl, fun l hl => by simpa using List.findIdx?_eq_none_iff.1 h l hl⟩
  | some k =>
    obtain ⟨hk, h1, h2⟩ := List.findIdx?_eq_some_iff_getElem.1 h
    exact .inl ⟨k, hk, rfl, h1, fun j hj hjk => by simpa using h2 j hjk⟩
theorem idxP_any (p : Lab → Bool) (ls : List Lab) : decide (0 ≤ idxP p ls) = ls.any p := by
  rcases idxP_cases p ls with ⟨k, hk, h, hp, _⟩ | ⟨h, hn⟩
  · rw [h, decide_eq_true (by omega)]
    exact (List.any_eq_true.2 ⟨ls[k], List.getElem_mem hk, hp⟩).symm
  · rw [h, decide_eq_false (by omega)]
    exact (List.any_eq_false.2 (fun l hl => by rw [hn l hl]; simp)).symm
def tentL (id : Int) (l : Lab) : Bool := (l.id == id) && decide (0 < l.unit)
def idxT (T : Tab) (id unit : Int) : Int := idxP (hitL id unit) T.labels
theorem hitL_iff (id unit : Int) (l : Lab) : hitL id unit l = true ↔ id ≠ 0 ∧ l.id = id ∧ l.unit = unit := by
  unfold hitL
  simp only [Bool.and_eq_true, Bool.not_eq_true', beq_eq_false_iff_ne, beq_iff_eq]
  constructor
  · rintro ⟨⟨h1, h2⟩, h3⟩; exact ⟨h1, h2, h3⟩
  · rintro ⟨h1, h2, h3⟩; exact ⟨⟨h1, h2⟩, h3⟩
end Go.Proofs.YtnlaogneceanoaaGreat
namespace Go.Proofs.YtnlaogneceanoaaGreat
set_option linter.unusedVariables false
set_option linter.unusedSimpArgs false
set_option linter.unusedSectionVars false
open Go.RowKit
theorem neq_beq (a b : Int) (h : (a == b) = true) : (a != b) = false := by simp [bne, h]
theorem neq_bne (a b : Int) (h : (a == b) = false) : (a != b) = true := by simp [bne, h]
set_option maxRecDepth 100000 in
set_option maxHeartbeats 1000000 in
theorem empty_any (B : Option Addr) (d : Nat) (l : Lab) (w : World) (h : LabAt w B d l) (hl : l.ext.length ≤ 1000) :
    Calls Tryz.prog 44 #[.agg #[.int .i64 l.id, .int .i64 l.unit, .string l.name, .string l.note, .slice B l.ext.length d]] w fun e w' => e = .returned (.bool (emL l)) ∧ Grew w w' := by
  have g0 := (Grew.refl w).alloc (.cells #[.int .i64 l.id, .int .i64 l.unit, .string l.name, .string l.note, .slice B l.ext.length d] 31)
  have HC := Lib.hid (equalZ_any B d l _ (h.hold g0) (by omega))
  have HG := Lib.hid g0
  have HE := Lib.hid (show emL l = eqL l labZ from rfl)
  clear h g0
  go_enter Tryz.func44, Tryz.ntmps44
  go_wp2_with fail
  refine HC.out.mono ?_
  rintro e w1 ⟨rfl, g1⟩
  go_wp2_with fail
  go_ret
  exact ⟨ret_bool (by rw [HE.out]), HG.out.trans g1⟩
set_option maxRecDepth 100000 in
set_option maxHeartbeats 1000000 in
theorem index1_any (B : Option Addr) (d : Nat) (l : Lab) (id unit : Int) (g : Nat) (w : World) (hb : Blk w g 26 #[.int .i64 id, .int .i64 unit]) :
    Calls Tryz.prog 93 #[.agg #[.int .i64 l.id, .int .i64 l.unit, .string l.name, .string l.note, .slice B l.ext.length d], .pointer (some ⟨g, 0, none⟩)] w fun e w' => e = .returned (.bool (hitL id unit l)) ∧ Grew w w' := by
  have x0 := hb.cell 0
  have x1 := hb.cell 1
  have hl := hb.lt
  obtain ⟨i, u, nm, nt, ex⟩ := l
  simp only
  have HE := Lib.hid (show hitL id unit ⟨i, u, nm, nt, ex⟩ = (!(id == 0) && (i == id) && (u == unit)) from rfl)
  clear hb
  cases b1 : (id == 0) with
  | true =>
    have HB := Lib.hid b1
    have c1 := neq_beq _ _ b1
    clear b1
    go_enter Tryz.func93, Tryz.ntmps93
    go_wp2_with fail
    go_ret
    exact ⟨ret_bool (by rw [HE.out, HB.out]; rfl), by (repeat' first | (with_reducible exact Grew.refl _) | (with_reducible assumption) | (with_reducible refine Grew.alloc ?_ _) | (with_reducible refine Grew.drew ?_) | (with_reducible refine Grew.drewN ?_ _) | (with_reducible refine Grew.setRow ?_ (by first | (simp; done) | (simp; omega) | omega) _) | (with_reducible refine Grew.setCell ?_ (by first | (simp; done) | (simp; omega) | omega) _) | ((with_reducible apply Grew.trans); rotate_left; (with_reducible assumption)) | ((with_reducible apply Grew.turn); rotate_left; (with_reducible assumption); (focus (intro i hi; first | omega | (simp at hi; omega)))) | fail)⟩
  | false =>
    have HB1 := Lib.hid b1
    have c1 := neq_bne _ _ b1
    clear b1
    cases b2 : (i == id) with
    | false =>
      have HB := Lib.hid b2
      go_enter Tryz.func93, Tryz.ntmps93
      go_wp2_with fail
      go_ret
      exact ⟨ret_bool (by rw [HE.out, HB1.out, HB.out]; rfl), by (repeat' first | (with_reducible exact Grew.refl _) | (with_reducible assumption) | (with_reducible refine Grew.alloc ?_ _) | (with_reducible refine Grew.drew ?_) | (with_reducible refine Grew.drewN ?_ _) | (with_reducible refine Grew.setRow ?_ (by first | (simp; done) | (simp; omega) | omega) _) | (with_reducible refine Grew.setCell ?_ (by first | (simp; done) | (simp; omega) | omega) _) | ((with_reducible apply Grew.trans); rotate_left; (with_reducible assumption)) | ((with_reducible apply Grew.turn); rotate_left; (with_reducible assumption); (focus (intro i hi; first | omega | (simp at hi; omega)))) | fail)⟩
    | true =>
      have HB2 := Lib.hid b2
      cases b3 : (u == unit) with
      | false =>
        have HB := Lib.hid b3
        go_enter Tryz.func93, Tryz.ntmps93
        go_wp2_with fail
        go_ret
        exact ⟨ret_bool (by rw [HE.out, HB1.out, HB2.out, HB.out]; rfl), by (repeat' first | (with_reducible exact Grew.refl _) | (with_reducible assumption) | (with_reducible refine Grew.alloc ?_ _) | (with_reducible refine Grew.drew ?_) | (with_reducible refine Grew.drewN ?_ _) | (with_reducible refine Grew.setRow ?_ (by first | (simp; done) | (simp; omega) | omega) _) | (with_reducible refine Grew.setCell ?_ (by first | (simp; done) | (simp; omega) | omega) _) | ((with_reducible apply Grew.trans); rotate_left; (with_reducible assumption)) | ((with_reducible apply Grew.turn); rotate_left; (with_reducible assumption); (focus (intro i hi; first | omega | (simp at hi; omega)))) | fail)⟩
      | true =>
        have HB := Lib.hid b3
        go_enter Tryz.func93, Tryz.ntmps93
        go_wp2_with fail
        go_ret
        exact ⟨ret_bool (by rw [HE.out, HB1.out, HB2.out, HB.out]; rfl), by (repeat' first | (with_reducible exact Grew.refl _) | (with_reducible assumption) | (with_reducible refine Grew.alloc ?_ _) | (with_reducible refine Grew.drew ?_) | (with_reducible refine Grew.drewN ?_ _) | (with_reducible refine Grew.setRow ?_ (by first | (simp; done) | (simp; omega) | omega) _) | (with_reducible refine Grew.setCell ?_ (by first | (simp; done) | (simp; omega) | omega) _) | ((with_reducible apply Grew.trans); rotate_left; (with_reducible assumption)) | ((with_reducible apply Grew.turn); rotate_left; (with_reducible assumption); (focus (intro i hi; first | omega | (simp at hi; omega)))) | fail)⟩
set_option maxRecDepth 100000 in
set_option maxHeartbeats 1000000 in
theorem create1_any (B : Option Addr) (d : Nat) (l : Lab) (id unit : Int) (g : Nat) (w : World) (hb : Blk w g 26 #[.int .i64 id, .int .i64 unit]) :
    Calls Tryz.prog 86 #[.agg #[.int .i64 l.id, .int .i64 l.unit, .string l.name, .string l.note, .slice B l.ext.length d], .pointer (some ⟨g, 0, none⟩)] w fun e w' => e = .returned (.bool (tentL id l)) ∧ Grew w w' := by
  have x0 := hb.cell 0
  have hl := hb.lt
  obtain ⟨i, u, nm, nt, ex⟩ := l
  simp only
  have HE := Lib.hid (show tentL id ⟨i, u, nm, nt, ex⟩ = ((i == id) && decide (0 < u)) from rfl)
  clear hb
  cases b1 : (i == id) with
  | false =>
    have HB := Lib.hid b1
    go_enter Tryz.func86, Tryz.ntmps86
    go_wp2_with fail
    go_ret
    exact ⟨ret_bool (by rw [HE.out, HB.out]; rfl), by (repeat' first | (with_reducible exact Grew.refl _) | (with_reducible assumption) | (with_reducible refine Grew.alloc ?_ _) | (with_reducible refine Grew.drew ?_) | (with_reducible refine Grew.drewN ?_ _) | (with_reducible refine Grew.setRow ?_ (by first | (simp; done) | (simp; omega) | omega) _) | (with_reducible refine Grew.setCell ?_ (by first | (simp; done) | (simp; omega) | omega) _) | ((with_reducible apply Grew.trans); rotate_left; (with_reducible assumption)) | ((with_reducible apply Grew.turn); rotate_left; (with_reducible assumption); (focus (intro i hi; first | omega | (simp at hi; omega)))) | fail)⟩
  | true =>
    have HB1 := Lib.hid b1
    by_cases b2 : 0 < u
    · have HB := Lib.hid (decide_eq_true b2)
      go_enter Tryz.func86, Tryz.ntmps86
      go_wp2_with fail
      go_ret
      exact ⟨ret_bool (by rw [HE.out, HB1.out, HB.out]; rfl), by (repeat' first | (with_reducible exact Grew.refl _) | (with_reducible assumption) | (with_reducible refine Grew.alloc ?_ _) | (with_reducible refine Grew.drew ?_) | (with_reducible refine Grew.drewN ?_ _) | (with_reducible refine Grew.setRow ?_ (by first | (simp; done) | (simp; omega) | omega) _) | (with_reducible refine Grew.setCell ?_ (by first | (simp; done) | (simp; omega) | omega) _) | ((with_reducible apply Grew.trans); rotate_left; (with_reducible assumption)) | ((with_reducible apply Grew.turn); rotate_left; (with_reducible assumption); (focus (intro i hi; first | omega | (simp at hi; omega)))) | fail)⟩
    · have HB := Lib.hid (decide_eq_false b2)
      go_enter Tryz.func86, Tryz.ntmps86
      go_wp2_with fail
      go_ret
      exact ⟨ret_bool (by rw [HE.out, HB1.out, HB.out]; rfl), by (repeat' first | (with_reducible exact Grew.refl _) | (with_reducible assumption) | (with_reducible refine Grew.alloc ?_ _) | (with_reducible refine Grew.drew ?_) | (with_reducible refine Grew.drewN ?_ _) | (with_reducible refine Grew.setRow ?_ (by first | (simp; done) | (simp; omega) | omega) _) | (with_reducible refine Grew.setCell ?_ (by first | (simp; done) | (simp; omega) | omega) _) | ((with_reducible apply Grew.trans); rotate_left; (with_reducible assumption)) | ((with_reducible apply Grew.turn); rotate_left; (with_reducible assumption); (focus (intro i hi; first | omega | (simp at hi; omega)))) | fail)⟩
section
variable (A : Option Addr) (c : Nat) (xs : List LabE) (T : Tab) (g : Nat) (id unit : Int) (w : World)
set_option maxRecDepth 100000 in
set_option maxHeartbeats 2000000 in
theorem find_index (h : TabAt w A c xs T) (hs : SmallT T) (hb : Blk w g 26 #[.int .i64 id, .int .i64 unit]) (n : Nat) (hn : n = T.labels.length) :
    Calls Tryz.prog 87 #[.slice A n c, .func (.func 93) #[] #[.pointer (some ⟨g, 0, none⟩)]] w fun e w' => e = .returned (.int .i64 (idxP (hitL id unit) T.labels)) ∧ Grew w w' := by
  subst hn
  have HT := Lib.hid h
  have HS := Lib.hid hs
  have HBB := Lib.hid hb
  have hlen := hs.len
  obtain ⟨q, hq⟩ : ∃ q, hitL id unit = q := ⟨_, rfl⟩
  have HQ := Lib.hid hq
  rw [hq]
  clear h hs hb hq
  go_enter Tryz.func87, Tryz.ntmps87
  go_wp2_with fail
  go_loopg [8] T.labels.length (fun gk i wr => ∃ k : Nat, k ≤ T.labels.length ∧ gk = T.labels.length - k ∧ i = .int .i64 k ∧ (∀ j (hj : j < T.labels.length), j < k → q T.labels[j] = false) ∧ Grew w wr)
  case atStart => exact ⟨0, by omega, by omega, rfl, fun j _ h => by omega, Grew.refl _⟩
  case round =>
    obtain ⟨k, hk, hgk, rfl, hall, hg⟩ := hrel
    have HGK := Lib.hid hgk
    have HA := Lib.hid hall
    have HG := Lib.hid hg
    clear hgk hall
    by_cases hlt : k < T.labels.length
    · obtain ⟨b, off, B, d, l, rfl, hbl, hxk, hv, hla, c0, c1, c2, c3, c4⟩ := (HT.out.hold hg).at_ hlt
      have hle := HS.out.ext T.labels[k] (List.getElem_mem hlt)
      rw [hv] at hle
      have hb := HBB.out
      have HC := Lib.hid (index1_any B d l id unit g wr (hb.hold hg))
      have HV := Lib.hid hv
      clear hv hxk hb hla
      rw [HQ.out] at HC
      go_wp2_with fail
      refine HC.out.mono ?_
      rintro e w3 ⟨rfl, g3⟩
      cases hbd : q l with
      | true =>
        have HI := Lib.hid (idxP_hit q T.labels k hlt (by rw [HV.out]; exact hbd) HA.out)
        clear hbd
        go_wp2_with fail
        go_ret
        exact ⟨ret_int (by rw [HI.out]), HG.out.trans g3⟩
      | false =>
        have HN := Lib.hid (show ∀ j (hj : j < T.labels.length), j < k + 1 → q T.labels[j] = false from fun j hj hjk => by
          by_cases hjk' : j = k
          · subst hjk'; rw [HV.out]; exact hbd
          · exact HA.out j hj (by omega))
        clear hbd
        go_wp2_with fail
        go_roundg (T.labels.length - (k + 1))
        case measure => rw [HGK.out]; omega
        case rel => exact ⟨k + 1, by omega, by omega, by go_num, HN.out, HG.out.trans g3⟩
    · have HN := Lib.hid (idxP_none q T.labels (fun j hj => HA.out j hj (by omega)))
      go_wp2_with fail
      go_ret
      exact ⟨ret_int (by rw [HN.out]), HG.out⟩
set_option maxRecDepth 100000 in
set_option maxHeartbeats 2000000 in
theorem find_tent (h : TabAt w A c xs T) (hs : SmallT T) (hb : Blk w g 26 #[.int .i64 id, .int .i64 unit]) (n : Nat) (hn : n = T.labels.length) :
    Calls Tryz.prog 87 #[.slice A n c, .func (.func 86) #[] #[.pointer (some ⟨g, 0, none⟩)]] w fun e w' => e = .returned (.int .i64 (idxP (tentL id) T.labels)) ∧ Grew w w' := by
  subst hn
  have HT := Lib.hid h
  have HS := Lib.hid hs
  have HBB := Lib.hid hb
  have hlen := hs.len
  obtain ⟨q, hq⟩ : ∃ q, tentL id = q := ⟨_, rfl⟩
  have HQ := Lib.hid hq
  rw [hq]
  clear h hs hb hq
  go_enter Tryz.func87, Tryz.ntmps87
  go_wp2_with fail
  go_loopg [8] T.labels.length (fun gk i wr => ∃ k : Nat, k ≤ T.labels.length ∧ gk = T.labels.length - k ∧ i = .int .i64 k ∧ (∀ j (hj : j < T.labels.length), j < k → q T.labels[j] = false) ∧ Grew w wr)
  case atStart => exact ⟨0, by omega, by omega, rfl, fun j _ h => by omega, Grew.refl _⟩
  case round =>
    obtain ⟨k, hk, hgk, rfl, hall, hg⟩ := hrel
    have HGK := Lib.hid hgk
    have HA := Lib.hid hall
    have HG := Lib.hid hg
    clear hgk hall
    by_cases hlt : k < T.labels.length
    · obtain ⟨b, off, B, d, l, rfl, hbl, hxk, hv, hla, c0, c1, c2, c3, c4⟩ := (HT.out.hold hg).at_ hlt
      have hle := HS.out.ext T.labels[k] (List.getElem_mem hlt)
      rw [hv] at hle
      have hb := HBB.out
      have HC := Lib.hid (create1_any B d l id unit g wr (hb.hold hg))
      have HV := Lib.hid hv
      clear hv hxk hb hla
      rw [HQ.out] at HC
      go_wp2_with fail
      refine HC.out.mono ?_
      rintro e w3 ⟨rfl, g3⟩
      cases hbd : q l with
      | true =>
        have HI := Lib.hid (idxP_hit q T.labels k hlt (by rw [HV.out]; exact hbd) HA.out)
        clear hbd
        go_wp2_with fail
        go_ret
        exact ⟨ret_int (by rw [HI.out]), HG.out.trans g3⟩
      | false =>
        have HN := Lib.hid (show ∀ j (hj : j < T.labels.length), j < k + 1 → q T.labels[j] = false from fun j hj hjk => by
          by_cases hjk' : j = k
          · subst hjk'; rw [HV.out]; exact hbd
          · exact HA.out j hj (by omega))
        clear hbd
        go_wp2_with fail
        go_roundg (T.labels.length - (k + 1))
        case measure => rw [HGK.out]; omega
        case rel => exact ⟨k + 1, by omega, by omega, by go_num, HN.out, HG.out.trans g3⟩
    · have HN := Lib.hid (idxP_none q T.labels (fun j hj => HA.out j hj (by omega)))
      go_wp2_with fail
      go_ret
      exact ⟨ret_int (by rw [HN.out]), HG.out⟩
set_option maxRecDepth 100000 in
set_option maxHeartbeats 2000000 in
theorem find_empty (h : TabAt w A c xs T) (hs : SmallT T) (hb : Blk w g 26 #[.int .i64 id, .int .i64 unit]) (n : Nat) (hn : n = T.labels.length) :
    Calls Tryz.prog 87 #[.slice A n c, .func (.func 44) #[] #[]] w fun e w' => e = .returned (.int .i64 (idxP (emL) T.labels)) ∧ Grew w w' := by
  subst hn
  have HT := Lib.hid h
  have HS := Lib.hid hs
  have HBB := Lib.hid hb
  have hlen := hs.len
  obtain ⟨q, hq⟩ : ∃ q, emL = q := ⟨_, rfl⟩
  have HQ := Lib.hid hq
  rw [hq]
  clear h hs hb hq
  go_enter Tryz.func87, Tryz.ntmps87
  go_wp2_with fail
  go_loopg [8] T.labels.length (fun gk i wr => ∃ k : Nat, k ≤ T.labels.length ∧ gk = T.labels.length - k ∧ i = .int .i64 k ∧ (∀ j (hj : j < T.labels.length), j < k → q T.labels[j] = false) ∧ Grew w wr)
  case atStart => exact ⟨0, by omega, by omega, rfl, fun j _ h => by omega, Grew.refl _⟩
  case round =>
    obtain ⟨k, hk, hgk, rfl, hall, hg⟩ := hrel
    have HGK := Lib.hid hgk
    have HA := Lib.hid hall
    have HG := Lib.hid hg
    clear hgk hall
    by_cases hlt : k < T.labels.length
    · obtain ⟨b, off, B, d, l, rfl, hbl, hxk, hv, hla, c0, c1, c2, c3, c4⟩ := (HT.out.hold hg).at_ hlt
      have hle := HS.out.ext T.labels[k] (List.getElem_mem hlt)
      rw [hv] at hle
      have hb := HBB.out
      have HC := Lib.hid (empty_any B d l wr hla hle)
      have HV := Lib.hid hv
      clear hv hxk hb hla
      rw [HQ.out] at HC
      go_wp2_with fail
      refine HC.out.mono ?_
      rintro e w3 ⟨rfl, g3⟩
      cases hbd : q l with
      | true =>
        have HI := Lib.hid (idxP_hit q T.labels k hlt (by rw [HV.out]; exact hbd) HA.out)
        clear hbd
        go_wp2_with fail
        go_ret
        exact ⟨ret_int (by rw [HI.out]), HG.out.trans g3⟩
      | false =>
        have HN := Lib.hid (show ∀ j (hj : j < T.labels.length), j < k + 1 → q T.labels[j] = false from fun j hj hjk => by
          by_cases hjk' : j = k
          · subst hjk'; rw [HV.out]; exact hbd
          · exact HA.out j hj (by omega))
        clear hbd
        go_wp2_with fail
        go_roundg (T.labels.length - (k + 1))
        case measure => rw [HGK.out]; omega
        case rel => exact ⟨k + 1, by omega, by omega, by go_num, HN.out, HG.out.trans g3⟩
    · have HN := Lib.hid (idxP_none q T.labels (fun j hj => HA.out j hj (by omega)))
      go_wp2_with fail
      go_ret
      exact ⟨ret_int (by rw [HN.out]), HG.out⟩
set_option maxRecDepth 100000 in
theorem hasTent_any (h : TabAt w A c xs T) (hs : SmallT T) (hb : Blk w g 26 #[.int .i64 id, .int .i64 unit]) (n : Nat) (hn : n = T.labels.length) :
    Calls Tryz.prog 85 #[.slice A n c, .func (.func 86) #[] #[.pointer (some ⟨g, 0, none⟩)]] w fun e w' => e = .returned (.bool (T.labels.any (tentL id))) ∧ Grew w w' := by
  subst hn
  have HC := Lib.hid (find_tent A c xs T g id unit w h hs hb _ rfl)
  have HE := Lib.hid (idxP_any (tentL id) T.labels)
  generalize idxP (tentL id) T.labels = i at *
  clear h hs hb
  go_enter Tryz.func85, Tryz.ntmps85
  go_wp2_with fail
  refine HC.out.mono ?_
  rintro e w1 ⟨rfl, g1⟩
  go_wp2_with fail
  go_ret
  exact ⟨ret_bool (by rw [← HE.out]), g1⟩
set_option maxRecDepth 100000 in
theorem cindex_any (h : TabAt w A c xs T) (hs : SmallT T) (n : Nat) (hn : n = T.labels.length) (k : Int) (hk : idxT T id unit = k) :
    Calls Tryz.prog 38 #[.agg #[.string T.name, .int .i64 T.tracks, .slice A n c], .agg #[.int .i64 id, .int .i64 unit]] w fun e w' => e = .returned (.int .i64 k) ∧ Grew w w' := by
  subst hk; subst hn
  have g0 := ((Grew.refl w).alloc (.cells #[.string T.name, .int .i64 T.tracks, .slice A T.labels.length c] 24)).alloc (.cells #[.int .i64 id, .int .i64 unit] 26)
  have hbr := Blk.new (w.alloc (.cells #[.string T.name, .int .i64 T.tracks, .slice A T.labels.length c] 24)) 26 #[.int .i64 id, .int .i64 unit] (n := w.heap.size + 1) (by simp)
  have HC := Lib.hid (find_index A c xs T (w.heap.size + 1) id unit _ (h.hold g0) hs hbr _ rfl)
  have HG := Lib.hid g0
  have HI := Lib.hid (show idxT T id unit = idxP (hitL id unit) T.labels from rfl)
  clear h g0 hs hbr
  go_enter Tryz.func38, Tryz.ntmps38
  go_wp2_with fail
  refine HC.out.mono ?_
  rintro e w1 ⟨rfl, g1⟩
  go_wp2_with fail
  go_ret
  exact ⟨ret_int (by rw [HI.out]), HG.out.trans g1⟩
end
end Go.Proofs.YtnlaogneceanoaaGreat
