/- Chapter 6: Extend. -/
import Derived.Test.YtenbcjlikoajdaaSpcF
namespace Go.Proofs.Ytenbcjlikoajdaa
set_option linter.unusedVariables false
set_option linter.unusedSimpArgs false
set_option linter.unusedSectionVars false
open Go.RowKit
theorem RunsAt.wide {w : World} {B B' : Nat} {A : Option Addr} {l : List (Int × Int)} (h : RunsAt w B A l) (hB : B ≤ B') : RunsAt w B' A l := ⟨h.1, h.2.mono hB⟩
def runUp (S : Nat → Bool) : Nat → Nat → Nat
  | _, 0 => 0
  | p, n + 1 => if S p = true then runUp S (p + 1) n + 1 else 0
theorem runUp_is (S : Nat → Bool) : ∀ (n p k : Nat), k ≤ n → (∀ j, j < k → S (p + j) = true) → (k = n ∨ S (p + k) = false) → runUp S p n = k := by
  intro n
  induction n with
  | zero =>
    intro p k hk _ _
    have : k = 0 := by omega
    subst this
    rfl
  | succ n ih =>
    intro p k hk hall hend
    rw [runUp]
    cases k with
    | zero =>
      rcases hend with h | h
      · omega
      · rw [Nat.add_zero] at h
        rw [if_neg (by rw [h]; simp)]
    | succ k =>
      rw [if_pos (by have := hall 0 (by omega); simpa using this)]
      rw [ih (p + 1) k (by omega) (fun j hj => by have := hall (j + 1) (by omega); rwa [show p + (j + 1) = p + 1 + j by omega] at this) (hend.imp (fun h => by omega) (fun h => by rwa [show p + (k + 1) = p + 1 + k by omega] at h))]
def extF (L : List (Nat × Nat)) (f : List (Int × Int)) : List (Nat × Nat) := normS fun i => memS f i && !memS (ints L) i
def extL (I : List (Nat × Nat)) (x : Nat × Nat) (k : Nat) : List (Nat × Nat) := I ++ [(x.1, x.2 + k)]
def extA (I : List (Nat × Nat)) (x : Nat × Nat) (f : List (Int × Int)) (nn k : Nat) : List (Nat × Nat) × Int :=
  allocS (memS (ints (extF (extL I x k) (ints (extF (I ++ [x]) f))))) ((nn - k : Nat) : Int) (16 - ((I.length : Int) + 1))
def extG (I : List (Nat × Nat)) (x : Nat × Nat) (f : List (Int × Int)) (nn k : Nat) : List (Nat × Nat) × Int :=
  if nn - k = 0 then (extL I x k, 0)
  else if 16 - ((I.length : Int) + 1) < 1 then ([], 14)
  else if (extA I x f nn k).2 ≠ 0 then ([], (extA I x f nn k).2)
  else (joinS (ints (extL I x k ++ (extA I x f nn k).1)), 0)
def extK (L : List (Nat × Nat)) (f : List (Int × Int)) (nn : Nat) : Nat := runUp (memS (ints (extF L f))) ((L.getLastD (0, 0)).1 + (L.getLastD (0, 0)).2) nn
/-- The extended extents, and the error. -/
def extS (e f : List (Int × Int)) (n : Int) : List (Nat × Nat) × Int :=
  if n < 1 ∨ joinS e = [] then ([], 1) else extG (joinS e).dropLast ((joinS e).getLastD (0, 0)) f n.toNat (extK (joinS e) f n.toNat)
theorem extS_eq (e f : List (Int × Int)) (nn : Nat) (I : List (Nat × Nat)) (x : Nat × Nat) (k : Nat) (h : joinS e = I ++ [x]) (hn : 1 ≤ nn) (hk : k ≤ nn) (hall : ∀ j, j < k → memS (ints (extF (I ++ [x]) f)) (x.1 + x.2 + j) = true) (hend : k = nn ∨ memS (ints (extF (I ++ [x]) f)) (x.1 + x.2 + k) = false) :
    extS e f (nn : Int) = extG I x f nn k := by
  unfold extS extK
  rw [h, if_neg (fun hh => hh.elim (fun hh => by omega) (fun hh => by simp at hh)), List.dropLast_concat, show (I ++ [x]).getLastD (0, 0) = x from by simp, Int.toNat_natCast, runUp_is _ nn _ k hk hall hend]
theorem rowN_len (k : List (Nat × Nat)) : ∀ r ∈ k.map rowN, r.length = 2 := by
  intro r hr
  obtain ⟨x, _, rfl⟩ := List.mem_map.1 hr
  rfl
theorem rowN_one (k : List (Nat × Nat)) : ∀ r ∈ k.map rowN, r.all (·.oneCell') = true := by
  intro r hr
  obtain ⟨x, _, rfl⟩ := List.mem_map.1 hr
  rfl
theorem sort_bd (S : Nat → Bool) : ∀ r ∈ sortS (normS S), r.1 + r.2 ≤ 128 := fun r hr => normS_bd S r ((mem_sortS _ (normS_cnt S) r).1 hr)
theorem sort_len (S : Nat → Bool) : (sortS (normS S)).length ≤ 128 := by rw [← (sortS_perm _ (normS_cnt S) (normS_asc S)).length_eq]; exact normS_len _
theorem alloc_bd (S : Nat → Bool) (n most : Int) : ∀ r ∈ (allocS S n most).1, r.1 + r.2 ≤ 128 := by
  unfold allocS
  split
  · intro r hr; cases hr
  · rename_i h0
    split
    · rename_i h1
      intro r hr
      rw [List.mem_singleton.1 hr]
      rcases bestF_mem n (normS S) with h | ⟨hm, h⟩
      · rw [h] at h1; exact absurd rfl h1
      · have := normS_bd S _ hm
        show (bestF n (normS S)).1 + n.toNat ≤ 128
        omega
    · split
      · intro r hr; cases hr
      · exact takeR_bd 128 _ _ (sort_bd S)
theorem alloc_len (S : Nat → Bool) (n most : Int) : (allocS S n most).1.length ≤ 128 := by
  unfold allocS
  split
  · exact Nat.zero_le _
  · split
    · show 1 ≤ 128; omega
    · split
      · exact Nat.zero_le _
      · exact Nat.le_trans (takeR_len _ _) (sort_len S)
theorem ext_bd (I : List (Nat × Nat)) (x : Nat × Nat) (F : List (Int × Int)) (k : Nat) (hb : ∀ r ∈ I ++ [x], r.1 + r.2 ≤ 128) (hall : ∀ j, j < k → memS F (x.1 + x.2 + j) = true) : ∀ r ∈ extL I x k, r.1 + r.2 ≤ 128 := by
  intro r hr
  unfold extL at hr
  rcases List.mem_append.1 hr with hr | hr
  · exact hb r (List.mem_append_left _ hr)
  · rw [List.mem_singleton.1 hr]
    have hx := hb x (List.mem_append_right _ (List.mem_singleton.2 rfl))
    show x.1 + (x.2 + k) ≤ 128
    cases k with
    | zero => omega
    | succ k => have := memS_lt _ _ (hall k (by omega)); omega
section
variable (A1 A2 : Option Addr) (c1 c2 : Nat) (l1 l2 : List (Int × Int)) (w : World) (B : Nat) (hB : B ≤ w.heap.size) (hl1 : l1.length ≤ 1000) (hl2 : l2.length ≤ 1000000) (hr1 : RunsAt w B A1 l1) (hr2 : RunsAt w B A2 l2) (n : Int) (n0 : -9223372036854775808 ≤ n) (n1 : n ≤ 9223372036854775807)
include hB hl1 hl2 hr1 hr2 n0 n1
set_option maxRecDepth 100000 in
set_option maxHeartbeats 4000000 in
theorem extend_any : Calls Try.prog 17 #[.slice A1 l1.length c1, .slice A2 l2.length c2, .int .i64 n] w (AllocR w (extS l1 l2 n)) := by
  have HJ := Lib.hid (join_any A1 c1 l1 w B hB (by omega) hr1)
  have hjl := joinS_len l1
  have hjb := joinS_bd l1
  by_cases h1 : n < 1
  · have HE := Lib.hid (show extS l1 l2 n = ([], 1) from by unfold extS; rw [if_pos (.inl h1)])
    go_enter Try.func17, Try.ntmps17
    go_wp2_with fail
    refine HJ.out.mono ?_
    rintro e w1 ⟨v, rfl, hown, g1⟩
    go_wp2_with fail
    go_returns
    rw [HE.out]
    exact ⟨_, rfl, OwnL.nil _ _ _ _, g1⟩
  obtain ⟨nn, rfl⟩ : ∃ nn : Nat, n = (nn : Int) := ⟨n.toNat, by omega⟩
  rcases last_cases (joinS l1) with h0 | ⟨I, x, hL⟩
  · have HE := Lib.hid (show extS l1 l2 (nn : Int) = ([], 1) from by unfold extS; rw [if_pos (.inr h0)])
    go_enter Try.func17, Try.ntmps17
    go_wp2_with fail
    refine HJ.out.mono ?_
    rintro e w1 ⟨v, rfl, hown, g1⟩
    rw [h0] at hown
    obtain ⟨A', c', hv, -⟩ := hown.listAt
    subst hv
    go_wp2_with fail
    go_returns
    rw [HE.out]
    exact ⟨_, rfl, OwnL.nil _ _ _ _, g1⟩
  have HEQ := Lib.hid (fun k h2 h3 h4 => extS_eq l1 l2 nn I x k hL (by omega) h2 h3 h4)
  have HBD := Lib.hid (fun k h => ext_bd I x (ints (extF (I ++ [x]) l2)) k (by rw [← hL]; exact hjb) h)
  rw [hL] at hjl hjb HJ
  have HJB := Lib.hid hjb
  have hIl : I.length + 1 ≤ 1000 := by simp at hjl; omega
  have HMIN := Lib.hid (fun (w1 : World) (g1 : Grew w w1) A c (h : RunsAt w1 w1.heap.size A (ints (I ++ [x]))) => minus_any A2 A c2 c l2 (ints (I ++ [x])) w1 w1.heap.size (Nat.le_refl _) hl2 (by rw [ints_len]; simp; omega) (RunsAt.wide (hr2.keep hB g1) (Nat.le_trans hB g1.size)) h)
  clear hr1 hr2 hjl hjb hL
  go_enter Try.func17, Try.ntmps17
  go_wp2_with fail
  refine HJ.out.mono ?_
  rintro e w1 ⟨v, rfl, hown, g1⟩
  obtain ⟨A', c', hv', hrL, _, _, hA'⟩ := own_runs2 hown (fun r hr => Nat.le_trans (HJB.out r hr) (by omega))
  rcases hown.form with ⟨_, hn0⟩ | ⟨g, cap, hv, hg1, hg2, _, _⟩
  · exfalso; have := congrArg List.length hn0; simp at this
  rw [List.length_map, List.length_append, List.length_singleton] at hv
  rw [List.length_append, List.length_singleton, hv] at hv'
  injection hv' with e1 e2 e3
  subst e1; subst e3; subst hv
  have HM2 := Lib.hid (HMIN.out w1 g1 _ cap hrL)
  rw [ints_len, List.length_append, List.length_singleton] at HM2
  clear HMIN HJ hA' e2
  have hz0 : ((I.length : Int) + 1 == 0) = false := beq_eq_false_iff_ne.2 (by omega)
  have hnd : decide ((nn : Int) < 1) = false := decide_eq_false (by omega)
  have h1p : 1 ≤ nn := by omega
  go_wp2_with fail
  refine HM2.out.mono ?_
  rintro e w2 ⟨v2, rfl, hown2, g2⟩
  rw [show (normS fun i => memS l2 i && !memS (ints (I ++ [x])) i) = extF (I ++ [x]) l2 from rfl] at hown2
  obtain ⟨F, hF⟩ : ∃ F, extF (I ++ [x]) l2 = F := ⟨_, rfl⟩
  have hFb : ∀ r ∈ extF (I ++ [x]) l2, r.1 + r.2 ≤ 128 := normS_bd _
  have hFl : (extF (I ++ [x]) l2).length ≤ 128 := normS_len _
  rw [hF] at hown2 hFb hFl
  rw [hF] at HBD HEQ
  have HF := Lib.hid hF
  obtain ⟨AF, cF, hvF, hrF, _, _, hAF⟩ := own_runs2 hown2 (fun r hr => Nat.le_trans (hFb r hr) (by omega))
  subst hvF
  have HRF := Lib.hid hrF
  have HAF := Lib.hid (show ∀ b off, AF = some ⟨b, off, none⟩ → ¬ b = g from fun b off e => by have := (hAF b off e).1; omega)
  have hownL := hown.grew g2
  have hG := g1.trans g2
  have hg2' : g < w2.heap.size := by have := g2.size; omega
  obtain ⟨xf, xc⟩ := x
  clear HM2 hF hown2 hrF hAF hown hrL g1 g2
  go_wp2_with fail
  go_loopg [2] nn (fun gk nv wr => ∃ k : Nat, k ≤ nn ∧ gk = nn - k ∧ nv = .int .i64 ((nn - k : Nat) : Int) ∧ (∀ j, j < k → memS (ints F) (xf + xc + j) = true) ∧ OwnL wr w.heap.size 25 2 (.slice (some ⟨g, 0, none⟩) (I.length + 1) cap) ((I ++ [(xf, xc + k)]).map rowN) ∧ Turned (fun i => i = g) w2 wr)
  case atStart => exact ⟨0, by omega, by omega, by simp, fun j hj => by omega, hownL, Turned.refl _ _⟩
  case round =>
    obtain ⟨k, hk, hgk, rfl, hall, hownk, ht⟩ := hrel
    have HGK := Lib.hid hgk
    clear hgk
    have hrow : ((I ++ [(xf, xc + k)]).map rowN)[I.length]? = some (rowN (xf, xc + k)) := by simp
    have y0 : wr.cell? ⟨g, I.length * 2, none⟩ = some (.int .i64 (xf : Int)) := hownk.cell (i := 0) hrow rfl
    have y1 : wr.cell? ⟨g, I.length * 2 + 1, none⟩ = some (.int .i64 ((xc : Int) + (k : Int))) := by have := hownk.cell (i := 1) hrow rfl; rw [this]; rfl
    have yf1 := hownk.frozen (I.length * 2 + 1)
    have hbk : xf + (xc + k) ≤ 128 := HBD.out k hall (xf, xc + k) (by simp [extL])
    have hts := ht.size
    have hgw : g < wr.heap.size := by omega
    have hrF : RunsAt wr wr.heap.size AF (ints F) := RunsAt.wide (HRF.out.turned (Nat.le_refl _) ht HAF.out) hts
    have hIN : inT (ints F) ((xf : Int) + ((xc : Int) + (k : Int))) = memS (ints F) (xf + xc + k) := by rw [show (xf : Int) + ((xc : Int) + (k : Int)) = ((xf + xc + k : Nat) : Int) by omega, inT_nat]
    have hw : IntKind.i64.wrap ((xf : Int) + ((xc : Int) + (k : Int))) = (xf : Int) + ((xc : Int) + (k : Int)) := by rw [IntKind.wrap_i64]; omega
    obtain ⟨m, hm⟩ : ∃ m, nn - k = m := ⟨_, rfl⟩
    rw [hm]
    have HALL := Lib.hid hall
    have HOWN := Lib.hid hownk
    have HT := Lib.hid ht
    have HRK := Lib.hid hrF
    have HROW := Lib.hid hrow
    have HINX := Lib.hid hIN
    clear hall hownk ht hrF hrow hIN
    by_cases hm0 : m = 0
    · have hkn : k = nn := by omega
      subst hm0
      have HE := Lib.hid (show extS l1 l2 (nn : Int) = (extL I (xf, xc) k, 0) from by rw [HEQ.out k hk HALL.out (.inl hkn)]; unfold extG; rw [if_pos hm])
      have hGx : Grew w wr := hG.turn HT.out (fun i hi => by omega)
      have HGX := Lib.hid hGx
      clear hm hkn hGx
      go_wp2_with fail
      refine wp_region_R [] (fun w' : World => w'.cell? ⟨g, I.length * 2, none⟩ = some (.int .i64 (xf : Int)) ∧ w'.cell? ⟨g, I.length * 2 + 1, none⟩ = some (.int .i64 ((xc : Int) + (k : Int)))) (by kernel_rfl) ?_
      have hS := (show (fun w' : World => w'.cell? ⟨g, I.length * 2, none⟩ = some (.int .i64 (xf : Int)) ∧ w'.cell? ⟨g, I.length * 2 + 1, none⟩ = some (.int .i64 ((xc : Int) + (k : Int)))) wr.drew from ⟨y0, y1⟩)
      refine wpAnyR_takeQ (i := 0) (v := ?_) (some 33) rfl rfl (by kernel_rfl) (by kernel_rfl) (by kernel_rfl) (by kernel_rfl) (fun _ _ _ h => h) (Or.inl ⟨by rfl, ?_⟩) ?_
      rotate_left
      focus (intro wS hSw; (try dsimp only at hSw); go_simp; (try with_reducible rfl); (try (first | (rw [if_pos (by omega)]; (try go_simp); (try with_reducible rfl)) | (rw [if_neg (by omega)]; (try go_simp); (try with_reducible rfl)))))
      try simp only [Act.put, List.setIfInBounds_toArray, List.set_cons_zero, List.set_cons_succ]
      refine wpAnyR_takeQ (i := 1) (v := ?_) (some 34) rfl rfl (by kernel_rfl) (by kernel_rfl) (by kernel_rfl) (by kernel_rfl) (fun _ _ _ h => h) (Or.inl ⟨by rfl, ?_⟩) ?_
      rotate_left
      focus (intro wS hSw; (try dsimp only at hSw); go_simp; (try with_reducible rfl); (try (first | (rw [if_pos (by omega)]; (try go_simp); (try with_reducible rfl)) | (rw [if_neg (by omega)]; (try go_simp); (try with_reducible rfl)))))
      try simp only [Act.put, List.setIfInBounds_toArray, List.set_cons_zero, List.set_cons_succ]
      refine wpAnyR_takeQ (i := 2) (v := ?_) (some 35) rfl rfl (by kernel_rfl) (by kernel_rfl) (by kernel_rfl) (by kernel_rfl) (fun _ _ _ h => h) (Or.inl ⟨by rfl, ?_⟩) ?_
      rotate_left
      focus (intro wS hSw; (try dsimp only at hSw); go_simp; (try with_reducible rfl); (try (first | (rw [if_pos (by omega)]; (try go_simp); (try with_reducible rfl)) | (rw [if_neg (by omega)]; (try go_simp); (try with_reducible rfl)))))
      try simp only [Act.put, List.setIfInBounds_toArray, List.set_cons_zero, List.set_cons_succ]
      refine wpAnyR_takeQ (i := 3) (v := undef) (some 36) rfl rfl (by kernel_rfl) (by kernel_rfl) (by kernel_rfl) (by kernel_rfl) (fun _ _ _ h => h) (Or.inr ⟨by rfl, rfl⟩) ?_
      try simp only [Act.put, List.setIfInBounds_toArray, List.set_cons_zero, List.set_cons_succ]
      refine wpAnyR_takeQ (i := 4) (v := undef) (some 37) rfl rfl (by kernel_rfl) (by kernel_rfl) (by kernel_rfl) (by kernel_rfl) (fun _ _ _ h => h) (Or.inr ⟨by rfl, rfl⟩) ?_
      try simp only [Act.put, List.setIfInBounds_toArray, List.set_cons_zero, List.set_cons_succ]
      refine wpAnyR_takeQ (i := 5) (v := undef) (some 38) rfl rfl (by kernel_rfl) (by kernel_rfl) (by kernel_rfl) (by kernel_rfl) (fun _ _ _ h => h) (Or.inr ⟨by rfl, rfl⟩) ?_
      try simp only [Act.put, List.setIfInBounds_toArray, List.set_cons_zero, List.set_cons_succ]
      refine wpAnyR_takeQ (i := 6) (v := undef) (some 39) rfl rfl (by kernel_rfl) (by kernel_rfl) (by kernel_rfl) (by kernel_rfl) (fun _ _ _ h => h) (Or.inr ⟨by rfl, rfl⟩) ?_
      try simp only [Act.put, List.setIfInBounds_toArray, List.set_cons_zero, List.set_cons_succ]
      refine wpAnyR_takeQ (i := 7) (v := undef) (some 40) rfl rfl (by kernel_rfl) (by kernel_rfl) (by kernel_rfl) (by kernel_rfl) (fun _ _ _ h => h) (Or.inr ⟨by rfl, rfl⟩) ?_
      try simp only [Act.put, List.setIfInBounds_toArray, List.set_cons_zero, List.set_cons_succ]
      refine wpAnyR_takeQ (i := 8) (v := undef) (some 41) rfl rfl (by kernel_rfl) (by kernel_rfl) (by kernel_rfl) (by kernel_rfl) (fun _ _ _ h => h) (Or.inr ⟨by rfl, rfl⟩) ?_
      try simp only [Act.put, List.setIfInBounds_toArray, List.set_cons_zero, List.set_cons_succ]
      refine wpAnyR_takeQ (i := 9) (v := undef) (some 42) rfl rfl (by kernel_rfl) (by kernel_rfl) (by kernel_rfl) (by kernel_rfl) (fun _ _ _ h => h) (Or.inr ⟨by rfl, rfl⟩) ?_
      try simp only [Act.put, List.setIfInBounds_toArray, List.set_cons_zero, List.set_cons_succ]
      refine wpAnyR_takeQ (i := 10) (v := undef) (some 43) rfl rfl (by kernel_rfl) (by kernel_rfl) (by kernel_rfl) (by kernel_rfl) (fun _ _ _ h => h) (Or.inr ⟨by rfl, rfl⟩) ?_
      try simp only [Act.put, List.setIfInBounds_toArray, List.set_cons_zero, List.set_cons_succ]
      refine wpAnyR_takeQ (i := 11) (v := undef) (some 44) rfl rfl (by kernel_rfl) (by kernel_rfl) (by kernel_rfl) (by kernel_rfl) (fun _ _ _ h => h) (Or.inr ⟨by rfl, rfl⟩) ?_
      try simp only [Act.put, List.setIfInBounds_toArray, List.set_cons_zero, List.set_cons_succ]
      refine wpAnyR_takeQ (i := 12) (v := undef) (some 45) rfl rfl (by kernel_rfl) (by kernel_rfl) (by kernel_rfl) (by kernel_rfl) (fun _ _ _ h => h) (Or.inr ⟨by rfl, rfl⟩) ?_
      try simp only [Act.put, List.setIfInBounds_toArray, List.set_cons_zero, List.set_cons_succ]
      refine wpAnyR_takeQ (i := 13) (v := undef) (some 46) rfl rfl (by kernel_rfl) (by kernel_rfl) (by kernel_rfl) (by kernel_rfl) (fun _ _ _ h => h) (Or.inr ⟨by rfl, rfl⟩) ?_
      try simp only [Act.put, List.setIfInBounds_toArray, List.set_cons_zero, List.set_cons_succ]
      refine wpAnyR_takeQ (i := 14) (v := ?_) (some 47) rfl rfl (by kernel_rfl) (by kernel_rfl) (by kernel_rfl) (by kernel_rfl) (fun _ _ _ h => h) (Or.inl ⟨by rfl, ?_⟩) ?_
      rotate_left
      focus (intro wS hSw; (try dsimp only at hSw); go_simp; (try with_reducible rfl); (try (first | (rw [if_pos (by omega)]; (try go_simp); (try with_reducible rfl)) | (rw [if_neg (by omega)]; (try go_simp); (try with_reducible rfl)))))
      try simp only [Act.put, List.setIfInBounds_toArray, List.set_cons_zero, List.set_cons_succ]
      refine wpAnyR_done (by kernel_rfl) ?_ _
      go_wp2_with fail
      go_returns
      rw [HE.out]
      exact ⟨_, rfl, HOWN.out.drew, HGX.out.drew⟩
    have hmp : 0 < m := by omega
    cases hbb : memS (ints F) (xf + xc + k) with
    | true =>
      go_wp2_with fail
      refine wp_region_R [] (fun w' : World => w'.cell? ⟨g, I.length * 2, none⟩ = some (.int .i64 (xf : Int)) ∧ w'.cell? ⟨g, I.length * 2 + 1, none⟩ = some (.int .i64 ((xc : Int) + (k : Int)))) (by kernel_rfl) ?_
      have hS := (show (fun w' : World => w'.cell? ⟨g, I.length * 2, none⟩ = some (.int .i64 (xf : Int)) ∧ w'.cell? ⟨g, I.length * 2 + 1, none⟩ = some (.int .i64 ((xc : Int) + (k : Int)))) wr.drew from ⟨y0, y1⟩)
      refine wpAnyR_takeQ (i := 0) (v := ?_) (some 33) rfl rfl (by kernel_rfl) (by kernel_rfl) (by kernel_rfl) (by kernel_rfl) (fun _ _ _ h => h) (Or.inl ⟨by rfl, ?_⟩) ?_
      rotate_left
      focus (intro wS hSw; (try dsimp only at hSw); go_simp; (try with_reducible rfl); (try (first | (rw [if_pos (by omega)]; (try go_simp); (try with_reducible rfl)) | (rw [if_neg (by omega)]; (try go_simp); (try with_reducible rfl)))))
      try simp only [Act.put, List.setIfInBounds_toArray, List.set_cons_zero, List.set_cons_succ]
      refine wpAnyR_takeQ (i := 1) (v := ?_) (some 34) rfl rfl (by kernel_rfl) (by kernel_rfl) (by kernel_rfl) (by kernel_rfl) (fun _ _ _ h => h) (Or.inl ⟨by rfl, ?_⟩) ?_
      rotate_left
      focus (intro wS hSw; (try dsimp only at hSw); go_simp; (try with_reducible rfl); (try (first | (rw [if_pos (by omega)]; (try go_simp); (try with_reducible rfl)) | (rw [if_neg (by omega)]; (try go_simp); (try with_reducible rfl)))))
      try simp only [Act.put, List.setIfInBounds_toArray, List.set_cons_zero, List.set_cons_succ]
      refine wpAnyR_takeQ (i := 2) (v := ?_) (some 35) rfl rfl (by kernel_rfl) (by kernel_rfl) (by kernel_rfl) (by kernel_rfl) (fun _ _ _ h => h) (Or.inl ⟨by rfl, ?_⟩) ?_
      rotate_left
      focus (intro wS hSw; (try dsimp only at hSw); go_simp; (try with_reducible rfl); (try (first | (rw [if_pos (by omega)]; (try go_simp); (try with_reducible rfl)) | (rw [if_neg (by omega)]; (try go_simp); (try with_reducible rfl)))))
      try simp only [Act.put, List.setIfInBounds_toArray, List.set_cons_zero, List.set_cons_succ]
      try rw [show decide ((m : Int) > 0) = true from decide_eq_true (by omega)]
      refine wpAnyR_takeQ (i := 3) (v := ?_) (some 36) rfl rfl (by kernel_rfl) (by kernel_rfl) (by kernel_rfl) (by kernel_rfl) (fun _ _ _ h => h) (Or.inl ⟨by rfl, ?_⟩) ?_
      rotate_left
      focus (intro wS hSw; (try dsimp only at hSw); go_simp; (try with_reducible rfl); (try (first | (rw [if_pos (by omega)]; (try go_simp); (try with_reducible rfl)) | (rw [if_neg (by omega)]; (try go_simp); (try with_reducible rfl)))))
      try simp only [Act.put, List.setIfInBounds_toArray, List.set_cons_zero, List.set_cons_succ]
      refine wpAnyR_takeQ (i := 4) (v := ?_) (some 37) rfl rfl (by kernel_rfl) (by kernel_rfl) (by kernel_rfl) (by kernel_rfl) (fun _ _ _ h => h) (Or.inl ⟨by rfl, ?_⟩) ?_
      rotate_left
      focus (intro wS hSw; (try dsimp only at hSw); go_simp; (try with_reducible rfl); (try (first | (rw [if_pos (by omega)]; (try go_simp); (try with_reducible rfl)) | (rw [if_neg (by omega)]; (try go_simp); (try with_reducible rfl)))))
      try simp only [Act.put, List.setIfInBounds_toArray, List.set_cons_zero, List.set_cons_succ]
      refine wpAnyR_take (i := 5) (v := ?_) [6, 7, 12, 13, 14] (some 38) rfl rfl (by kernel_rfl) (by kernel_rfl) (by kernel_rfl) (by kernel_rfl) (by kernel_rfl) (by kernel_rfl) (by kernel_rfl) (fun _ _ _ h => h) (Or.inl ⟨by rfl, ?_⟩) hS ?_
      rotate_left
      focus (intro wS hSw; (try dsimp only at hSw); go_simp; (try with_reducible rfl); (try (first | (rw [if_pos (by omega)]; (try go_simp); (try with_reducible rfl)) | (rw [if_neg (by omega)]; (try go_simp); (try with_reducible rfl)))))
      try simp only [Act.put, List.setIfInBounds_toArray, List.set_cons_zero, List.set_cons_succ]
      refine wpAnyR_takeQ (i := 6) (v := ?_) (some 39) rfl rfl (by kernel_rfl) (by kernel_rfl) (by kernel_rfl) (by kernel_rfl) (fun _ _ _ h => h) (Or.inl ⟨by rfl, ?_⟩) ?_
      rotate_left
      focus (intro wS hSw; (try dsimp only at hSw); go_simp; (try with_reducible rfl); (try (first | (rw [if_pos (by omega)]; (try go_simp); (try with_reducible rfl)) | (rw [if_neg (by omega)]; (try go_simp); (try with_reducible rfl)))))
      try simp only [Act.put, List.setIfInBounds_toArray, List.set_cons_zero, List.set_cons_succ]
      refine wpAnyR_take (i := 7) (v := ?_) [12, 13, 14] (some 40) rfl rfl (by kernel_rfl) (by kernel_rfl) (by kernel_rfl) (by kernel_rfl) (by kernel_rfl) (by kernel_rfl) (by kernel_rfl) (fun _ _ _ h => h) (Or.inl ⟨by rfl, ?_⟩) hS ?_
      rotate_left
      focus (intro wS hSw; (try dsimp only at hSw); go_simp; (try with_reducible rfl); (try (first | (rw [if_pos (by omega)]; (try go_simp); (try with_reducible rfl)) | (rw [if_neg (by omega)]; (try go_simp); (try with_reducible rfl)))))
      try simp only [Act.put, List.setIfInBounds_toArray, List.set_cons_zero, List.set_cons_succ]
      refine wpAnyR_takeQ (i := 8) (v := ?_) (some 41) rfl rfl (by kernel_rfl) (by kernel_rfl) (by kernel_rfl) (by kernel_rfl) (fun _ _ _ h => h) (Or.inl ⟨by rfl, ?_⟩) ?_
      rotate_left
      focus (intro wS hSw; (try dsimp only at hSw); go_simp; (try with_reducible rfl); (try (first | (rw [if_pos (by omega)]; (try go_simp); (try with_reducible rfl)) | (rw [if_neg (by omega)]; (try go_simp); (try with_reducible rfl)))))
      try simp only [Act.put, List.setIfInBounds_toArray, List.set_cons_zero, List.set_cons_succ]
      refine wpAnyR_take (i := 9) (v := ?_) [10, 11, 12, 13, 14] (some 42) rfl rfl (by kernel_rfl) (by kernel_rfl) (by kernel_rfl) (by kernel_rfl) (by kernel_rfl) (by kernel_rfl) (by kernel_rfl) (fun _ _ _ h => h) (Or.inl ⟨by rfl, ?_⟩) hS ?_
      rotate_left
      focus (intro wS hSw; (try dsimp only at hSw); go_simp; (try with_reducible rfl); (try (first | (rw [if_pos (by omega)]; (try go_simp); (try with_reducible rfl)) | (rw [if_neg (by omega)]; (try go_simp); (try with_reducible rfl)))))
      try simp only [Act.put, List.setIfInBounds_toArray, List.set_cons_zero, List.set_cons_succ]
      refine wpAnyR_takeQ (i := 10) (v := ?_) (some 43) rfl rfl (by kernel_rfl) (by kernel_rfl) (by kernel_rfl) (by kernel_rfl) (fun _ _ _ h => h) (Or.inl ⟨by rfl, ?_⟩) ?_
      rotate_left
      focus (intro wS hSw; (try dsimp only at hSw); go_simp; (try with_reducible rfl); (try (first | (rw [if_pos (by omega)]; (try go_simp); (try with_reducible rfl)) | (rw [if_neg (by omega)]; (try go_simp); (try with_reducible rfl)))))
      try simp only [Act.put, List.setIfInBounds_toArray, List.set_cons_zero, List.set_cons_succ]
      refine wpAnyR_take (i := 11) (v := ?_) [12, 13, 14] (some 44) rfl rfl (by kernel_rfl) (by kernel_rfl) (by kernel_rfl) (by kernel_rfl) (by kernel_rfl) (by kernel_rfl) (by kernel_rfl) (fun _ _ _ h => h) (Or.inl ⟨by rfl, ?_⟩) hS ?_
      rotate_left
      focus (intro wS hSw; (try dsimp only at hSw); go_simp; (try with_reducible rfl); (try (first | (rw [if_pos (by omega)]; (try go_simp); (try with_reducible rfl)) | (rw [if_neg (by omega)]; (try go_simp); (try with_reducible rfl)))))
      try simp only [Act.put, List.setIfInBounds_toArray, List.set_cons_zero, List.set_cons_succ]
      refine wpAnyR_takeQ (i := 12) (v := ?_) (some 45) rfl rfl (by kernel_rfl) (by kernel_rfl) (by kernel_rfl) (by kernel_rfl) (fun _ _ _ h => h) (Or.inl ⟨by rfl, ?_⟩) ?_
      rotate_left
      focus (intro wS hSw; (try dsimp only at hSw); go_simp; (try with_reducible rfl); (try (first | (rw [if_pos (by omega)]; (try go_simp); (try with_reducible rfl)) | (rw [if_neg (by omega)]; (try go_simp); (try with_reducible rfl)))))
      try simp only [Act.put, List.setIfInBounds_toArray, List.set_cons_zero, List.set_cons_succ]
      try rw [hw]
      refine wpAnyR_n1 (i := 13) rfl (by kernel_rfl) ?_
      intro K' hK
      rw [if_pos (by rfl)]
      simp only [List.getElem_toArray, List.getElem_cons_succ, List.getElem_cons_zero]
      go_wp2_with fail
      refine (contains_val (w := wr.drew) (l := ints F) (ints_len F).symm (by rw [ints_len]; omega) HRK.out _ (by omega) (by omega) true (by rw [HINX.out, hbb])).mono ?_
      rintro e wb ⟨rfl, gb⟩
      go_wp2_with fail
      have q0 := (gb.cellEq _ _ hgw).trans y0
      have q1 := (gb.cellEq _ _ hgw).trans y1
      have qf := (gb.frozenEq _ _ hgw).trans yf1
      have hgwb : g < wb.heap.size := Nat.lt_of_lt_of_le hgw gb.size
      have gb' : Grew wr wb := (Grew.refl wr).drew.trans gb
      have hownb := HOWN.out.grew gb'
      have htb := HT.out.andGrew gb'
      refine hK.out _ _ (.inr (fun _ => ⟨q0, q1⟩)) ?_
      clear hK hS
      refine wpAnyR_takeQ (i := 14) (v := ?_) (some 47) rfl rfl (by kernel_rfl) (by kernel_rfl) (by kernel_rfl) (by kernel_rfl) (fun _ _ _ h => h) (Or.inl ⟨by rfl, ?_⟩) ?_
      rotate_left
      focus (intro wS hSw; (try dsimp only at hSw); go_simp; (try with_reducible rfl); (try (first | (rw [if_pos (by omega)]; (try go_simp); (try with_reducible rfl)) | (rw [if_neg (by omega)]; (try go_simp); (try with_reducible rfl)))))
      try simp only [Act.put, List.setIfInBounds_toArray, List.set_cons_zero, List.set_cons_succ]
      refine wpAnyR_done (by kernel_rfl) ?_ _
      clear y0 y1 yf1
      have HBB := Lib.hid hbb
      have hsetown := hownb.set_ (i := 1) (o := I.length * 2 + 1) HROW.out (by omega) rfl (.int .i64 ((xc + (k + 1) : Nat) : Int))
      rw [rows_set', show (I ++ [(xf, xc + k)]).set I.length (xf, xc + (k + 1)) = I ++ [(xf, xc + (k + 1))] from by rw [List.set_append_right _ _ (Nat.le_refl _)]; simp] at hsetown
      have HST := Lib.hid hsetown
      have hq1' : (xc : Int) + (k : Int) + 1 = ((xc + (k + 1) : Nat) : Int) := by omega
      clear hsetown hbb
      go_wp2_with fail
      go_roundg (nn - (k + 1))
      case measure => rw [HGK.out]; omega
      case rel => exact ⟨k + 1, by omega, by omega, by go_num, fun j hj => by (by_cases hjk : j = k); (· subst hjk; exact HBB.out); (· exact HALL.out j (by omega)), by have := HST.out; (first | exact this | (rw [hq1'] at *; exact this)), by have := htb; (repeat' first | (with_reducible exact Turned.refl _ _) | (with_reducible assumption) | (with_reducible refine Turned.alloc ?_ _) | (with_reducible refine Turned.drew ?_) | (with_reducible refine Turned.drewN ?_ _) | (with_reducible refine Turned.setRow ?_ (by first | (simp; done) | (simp; omega) | omega) _) | (with_reducible refine Turned.setCell ?_ (by first | (simp; done) | (simp; omega) | omega) _) | ((with_reducible apply Turned.andGrew); rotate_left; (with_reducible assumption)) | ((with_reducible apply Turned.trans); rotate_left; (with_reducible assumption)) | fail)⟩
    | false =>
      go_wp2_with fail
      refine wp_region_R [] (fun w' : World => w'.cell? ⟨g, I.length * 2, none⟩ = some (.int .i64 (xf : Int)) ∧ w'.cell? ⟨g, I.length * 2 + 1, none⟩ = some (.int .i64 ((xc : Int) + (k : Int)))) (by kernel_rfl) ?_
      have hS := (show (fun w' : World => w'.cell? ⟨g, I.length * 2, none⟩ = some (.int .i64 (xf : Int)) ∧ w'.cell? ⟨g, I.length * 2 + 1, none⟩ = some (.int .i64 ((xc : Int) + (k : Int)))) wr.drew from ⟨y0, y1⟩)
      refine wpAnyR_takeQ (i := 0) (v := ?_) (some 33) rfl rfl (by kernel_rfl) (by kernel_rfl) (by kernel_rfl) (by kernel_rfl) (fun _ _ _ h => h) (Or.inl ⟨by rfl, ?_⟩) ?_
      rotate_left
      focus (intro wS hSw; (try dsimp only at hSw); go_simp; (try with_reducible rfl); (try (first | (rw [if_pos (by omega)]; (try go_simp); (try with_reducible rfl)) | (rw [if_neg (by omega)]; (try go_simp); (try with_reducible rfl)))))
      try simp only [Act.put, List.setIfInBounds_toArray, List.set_cons_zero, List.set_cons_succ]
      refine wpAnyR_takeQ (i := 1) (v := ?_) (some 34) rfl rfl (by kernel_rfl) (by kernel_rfl) (by kernel_rfl) (by kernel_rfl) (fun _ _ _ h => h) (Or.inl ⟨by rfl, ?_⟩) ?_
      rotate_left
      focus (intro wS hSw; (try dsimp only at hSw); go_simp; (try with_reducible rfl); (try (first | (rw [if_pos (by omega)]; (try go_simp); (try with_reducible rfl)) | (rw [if_neg (by omega)]; (try go_simp); (try with_reducible rfl)))))
      try simp only [Act.put, List.setIfInBounds_toArray, List.set_cons_zero, List.set_cons_succ]
      refine wpAnyR_takeQ (i := 2) (v := ?_) (some 35) rfl rfl (by kernel_rfl) (by kernel_rfl) (by kernel_rfl) (by kernel_rfl) (fun _ _ _ h => h) (Or.inl ⟨by rfl, ?_⟩) ?_
      rotate_left
      focus (intro wS hSw; (try dsimp only at hSw); go_simp; (try with_reducible rfl); (try (first | (rw [if_pos (by omega)]; (try go_simp); (try with_reducible rfl)) | (rw [if_neg (by omega)]; (try go_simp); (try with_reducible rfl)))))
      try simp only [Act.put, List.setIfInBounds_toArray, List.set_cons_zero, List.set_cons_succ]
      try rw [show decide ((m : Int) > 0) = true from decide_eq_true (by omega)]
      refine wpAnyR_takeQ (i := 3) (v := ?_) (some 36) rfl rfl (by kernel_rfl) (by kernel_rfl) (by kernel_rfl) (by kernel_rfl) (fun _ _ _ h => h) (Or.inl ⟨by rfl, ?_⟩) ?_
      rotate_left
      focus (intro wS hSw; (try dsimp only at hSw); go_simp; (try with_reducible rfl); (try (first | (rw [if_pos (by omega)]; (try go_simp); (try with_reducible rfl)) | (rw [if_neg (by omega)]; (try go_simp); (try with_reducible rfl)))))
      try simp only [Act.put, List.setIfInBounds_toArray, List.set_cons_zero, List.set_cons_succ]
      refine wpAnyR_takeQ (i := 4) (v := ?_) (some 37) rfl rfl (by kernel_rfl) (by kernel_rfl) (by kernel_rfl) (by kernel_rfl) (fun _ _ _ h => h) (Or.inl ⟨by rfl, ?_⟩) ?_
      rotate_left
      focus (intro wS hSw; (try dsimp only at hSw); go_simp; (try with_reducible rfl); (try (first | (rw [if_pos (by omega)]; (try go_simp); (try with_reducible rfl)) | (rw [if_neg (by omega)]; (try go_simp); (try with_reducible rfl)))))
      try simp only [Act.put, List.setIfInBounds_toArray, List.set_cons_zero, List.set_cons_succ]
      refine wpAnyR_take (i := 5) (v := ?_) [6, 7, 12, 13, 14] (some 38) rfl rfl (by kernel_rfl) (by kernel_rfl) (by kernel_rfl) (by kernel_rfl) (by kernel_rfl) (by kernel_rfl) (by kernel_rfl) (fun _ _ _ h => h) (Or.inl ⟨by rfl, ?_⟩) hS ?_
      rotate_left
      focus (intro wS hSw; (try dsimp only at hSw); go_simp; (try with_reducible rfl); (try (first | (rw [if_pos (by omega)]; (try go_simp); (try with_reducible rfl)) | (rw [if_neg (by omega)]; (try go_simp); (try with_reducible rfl)))))
      try simp only [Act.put, List.setIfInBounds_toArray, List.set_cons_zero, List.set_cons_succ]
      refine wpAnyR_takeQ (i := 6) (v := ?_) (some 39) rfl rfl (by kernel_rfl) (by kernel_rfl) (by kernel_rfl) (by kernel_rfl) (fun _ _ _ h => h) (Or.inl ⟨by rfl, ?_⟩) ?_
      rotate_left
      focus (intro wS hSw; (try dsimp only at hSw); go_simp; (try with_reducible rfl); (try (first | (rw [if_pos (by omega)]; (try go_simp); (try with_reducible rfl)) | (rw [if_neg (by omega)]; (try go_simp); (try with_reducible rfl)))))
      try simp only [Act.put, List.setIfInBounds_toArray, List.set_cons_zero, List.set_cons_succ]
      refine wpAnyR_take (i := 7) (v := ?_) [12, 13, 14] (some 40) rfl rfl (by kernel_rfl) (by kernel_rfl) (by kernel_rfl) (by kernel_rfl) (by kernel_rfl) (by kernel_rfl) (by kernel_rfl) (fun _ _ _ h => h) (Or.inl ⟨by rfl, ?_⟩) hS ?_
      rotate_left
      focus (intro wS hSw; (try dsimp only at hSw); go_simp; (try with_reducible rfl); (try (first | (rw [if_pos (by omega)]; (try go_simp); (try with_reducible rfl)) | (rw [if_neg (by omega)]; (try go_simp); (try with_reducible rfl)))))
      try simp only [Act.put, List.setIfInBounds_toArray, List.set_cons_zero, List.set_cons_succ]
      refine wpAnyR_takeQ (i := 8) (v := ?_) (some 41) rfl rfl (by kernel_rfl) (by kernel_rfl) (by kernel_rfl) (by kernel_rfl) (fun _ _ _ h => h) (Or.inl ⟨by rfl, ?_⟩) ?_
      rotate_left
      focus (intro wS hSw; (try dsimp only at hSw); go_simp; (try with_reducible rfl); (try (first | (rw [if_pos (by omega)]; (try go_simp); (try with_reducible rfl)) | (rw [if_neg (by omega)]; (try go_simp); (try with_reducible rfl)))))
      try simp only [Act.put, List.setIfInBounds_toArray, List.set_cons_zero, List.set_cons_succ]
      refine wpAnyR_take (i := 9) (v := ?_) [10, 11, 12, 13, 14] (some 42) rfl rfl (by kernel_rfl) (by kernel_rfl) (by kernel_rfl) (by kernel_rfl) (by kernel_rfl) (by kernel_rfl) (by kernel_rfl) (fun _ _ _ h => h) (Or.inl ⟨by rfl, ?_⟩) hS ?_
      rotate_left
      focus (intro wS hSw; (try dsimp only at hSw); go_simp; (try with_reducible rfl); (try (first | (rw [if_pos (by omega)]; (try go_simp); (try with_reducible rfl)) | (rw [if_neg (by omega)]; (try go_simp); (try with_reducible rfl)))))
      try simp only [Act.put, List.setIfInBounds_toArray, List.set_cons_zero, List.set_cons_succ]
      refine wpAnyR_takeQ (i := 10) (v := ?_) (some 43) rfl rfl (by kernel_rfl) (by kernel_rfl) (by kernel_rfl) (by kernel_rfl) (fun _ _ _ h => h) (Or.inl ⟨by rfl, ?_⟩) ?_
      rotate_left
      focus (intro wS hSw; (try dsimp only at hSw); go_simp; (try with_reducible rfl); (try (first | (rw [if_pos (by omega)]; (try go_simp); (try with_reducible rfl)) | (rw [if_neg (by omega)]; (try go_simp); (try with_reducible rfl)))))
      try simp only [Act.put, List.setIfInBounds_toArray, List.set_cons_zero, List.set_cons_succ]
      refine wpAnyR_take (i := 11) (v := ?_) [12, 13, 14] (some 44) rfl rfl (by kernel_rfl) (by kernel_rfl) (by kernel_rfl) (by kernel_rfl) (by kernel_rfl) (by kernel_rfl) (by kernel_rfl) (fun _ _ _ h => h) (Or.inl ⟨by rfl, ?_⟩) hS ?_
      rotate_left
      focus (intro wS hSw; (try dsimp only at hSw); go_simp; (try with_reducible rfl); (try (first | (rw [if_pos (by omega)]; (try go_simp); (try with_reducible rfl)) | (rw [if_neg (by omega)]; (try go_simp); (try with_reducible rfl)))))
      try simp only [Act.put, List.setIfInBounds_toArray, List.set_cons_zero, List.set_cons_succ]
      refine wpAnyR_takeQ (i := 12) (v := ?_) (some 45) rfl rfl (by kernel_rfl) (by kernel_rfl) (by kernel_rfl) (by kernel_rfl) (fun _ _ _ h => h) (Or.inl ⟨by rfl, ?_⟩) ?_
      rotate_left
      focus (intro wS hSw; (try dsimp only at hSw); go_simp; (try with_reducible rfl); (try (first | (rw [if_pos (by omega)]; (try go_simp); (try with_reducible rfl)) | (rw [if_neg (by omega)]; (try go_simp); (try with_reducible rfl)))))
      try simp only [Act.put, List.setIfInBounds_toArray, List.set_cons_zero, List.set_cons_succ]
      try rw [hw]
      refine wpAnyR_n1 (i := 13) rfl (by kernel_rfl) ?_
      intro K' hK
      rw [if_pos (by rfl)]
      simp only [List.getElem_toArray, List.getElem_cons_succ, List.getElem_cons_zero]
      go_wp2_with fail
      refine (contains_val (w := wr.drew) (l := ints F) (ints_len F).symm (by rw [ints_len]; omega) HRK.out _ (by omega) (by omega) false (by rw [HINX.out, hbb])).mono ?_
      rintro e wb ⟨rfl, gb⟩
      go_wp2_with fail
      have q0 := (gb.cellEq _ _ hgw).trans y0
      have q1 := (gb.cellEq _ _ hgw).trans y1
      have qf := (gb.frozenEq _ _ hgw).trans yf1
      have hgwb : g < wb.heap.size := Nat.lt_of_lt_of_le hgw gb.size
      have gb' : Grew wr wb := (Grew.refl wr).drew.trans gb
      have hownb := HOWN.out.grew gb'
      have htb := HT.out.andGrew gb'
      refine hK.out _ _ (.inr (fun _ => ⟨q0, q1⟩)) ?_
      clear hK hS
      refine wpAnyR_takeQ (i := 14) (v := ?_) (some 47) rfl rfl (by kernel_rfl) (by kernel_rfl) (by kernel_rfl) (by kernel_rfl) (fun _ _ _ h => h) (Or.inl ⟨by rfl, ?_⟩) ?_
      rotate_left
      focus (intro wS hSw; (try dsimp only at hSw); go_simp; (try with_reducible rfl); (try (first | (rw [if_pos (by omega)]; (try go_simp); (try with_reducible rfl)) | (rw [if_neg (by omega)]; (try go_simp); (try with_reducible rfl)))))
      try simp only [Act.put, List.setIfInBounds_toArray, List.set_cons_zero, List.set_cons_succ]
      refine wpAnyR_done (by kernel_rfl) ?_ _
      clear y0 y1 yf1
      have hkn : k < nn := by omega
      have HEK := Lib.hid (HEQ.out k hk HALL.out (.inr hbb))
      have hGb : Grew w wb := hG.turn htb (fun i hi => by omega)
      have hb0 : ((m : Int) == 0) = false := beq_eq_false_iff_ne.2 (by omega)
      clear hbb q0 q1 qf
      by_cases hmo : 16 - ((I.length : Int) + 1) < 1
      · have HE := Lib.hid (show extS l1 l2 (nn : Int) = ([], 14) from by rw [HEK.out]; unfold extG; rw [if_neg (by omega), if_pos hmo])
        have HGX := Lib.hid hGb
        clear hGb
        go_wp2_with fail
        go_returns
        rw [HE.out]
        exact ⟨_, rfl, OwnL.nil _ _ _ _, HGX.out⟩
      have HEK2 := Lib.hid (show extS l1 l2 (nn : Int) = if (extA I (xf, xc) l2 nn k).2 ≠ 0 then ([], (extA I (xf, xc) l2 nn k).2) else (joinS (ints (extL I (xf, xc) k ++ (extA I (xf, xc) l2 nn k).1)), 0) from by rw [HEK.out]; unfold extG; rw [if_neg (by omega), if_neg hmo])
      have hbL : ∀ r ∈ I ++ [(xf, xc + k)], r.1 + r.2 ≤ 128 := HBD.out k HALL.out
      obtain ⟨A5, c5, hv5, hrL, _, _, _⟩ := own_runs2 hownb (fun r hr => Nat.le_trans (hbL r hr) (by omega))
      rw [List.length_append, List.length_singleton] at hv5
      injection hv5 with e1 e2 e3
      subst e1; subst e3
      have hLl : (I ++ [(xf, xc + k)]).length = I.length + 1 := by simp
      have hM := minus_any AF (some ⟨g, 0, none⟩) cF cap (ints F) (ints (I ++ [(xf, xc + k)])) wb wb.heap.size (Nat.le_refl _) (by rw [ints_len]; omega) (by rw [ints_len]; omega) (RunsAt.wide (RunsAt.keep HRK.out (Nat.le_refl _) gb') gb'.size) hrL
      rw [ints_len, ints_len, hLl, show (normS fun i => memS (ints F) i && !memS (ints (I ++ [(xf, xc + k)])) i) = extF (extL I (xf, xc) k) (ints F) from rfl] at hM
      have hA0 : extA I (xf, xc) l2 nn k = allocS (memS (ints (extF (extL I (xf, xc) k) (ints F)))) (m : Int) (16 - ((I.length : Int) + 1)) := by unfold extA; rw [HF.out, hm]
      have hf2b : ∀ r ∈ extF (extL I (xf, xc) k) (ints F), r.1 + r.2 ≤ 128 := normS_bd _
      have hf2l : (extF (extL I (xf, xc) k) (ints F)).length ≤ 128 := normS_len _
      generalize extF (extL I (xf, xc) k) (ints F) = F2 at *
      have hab := alloc_bd (memS (ints F2)) (m : Int) (16 - ((I.length : Int) + 1))
      have hal := alloc_len (memS (ints F2)) (m : Int) (16 - ((I.length : Int) + 1))
      rw [← hA0] at hab hal
      have HALC := Lib.hid (fun A c w (h : RunsAt w w.heap.size A (ints F2)) => alloc_any A c (ints F2) w w.heap.size (Nat.le_refl _) (by rw [ints_len]; omega) h (m : Int) (by omega) (by omega) (16 - ((I.length : Int) + 1)))
      rw [← hA0] at HALC
      have HM := Lib.hid hM
      have HAB := Lib.hid hab
      clear hM hA0 hab e2 hLl hrL
      go_wp2_with fail
      refine HM.out.mono ?_
      rintro e wc ⟨v3, rfl, hown3, gc⟩
      obtain ⟨A3, c3, hv3, hr3, _, _, _⟩ := own_runs2 hown3 (fun r hr => Nat.le_trans (hf2b r hr) (by omega))
      subst hv3
      have hAL := HALC.out A3 c3 wc hr3
      rw [ints_len] at hAL
      have hownc := hownb.grew gc
      have hGc := hGb.trans gc
      clear HM HALC hown3 hr3 gc hGb hownb
      go_wp2_with fail
      refine hAL.mono ?_
      rintro e wd ⟨v4, rfl, hown4, gd⟩
      have hownd := hownc.grew gd
      have hGd := hGc.trans gd
      have hgsz := hGd.size
      obtain ⟨A4, c4, hv4, _, _, hl4⟩ := hown4.listAt
      rw [List.length_map] at hv4
      subst hv4
      clear hAL hownc hGc gd
      generalize extA I (xf, xc) l2 nn k = a at *
      obtain ⟨al, ae⟩ := a
      simp only at hal HAB hl4
      by_cases hae : ae = 0
      rotate_left
      · have HE := Lib.hid (show extS l1 l2 (nn : Int) = ([], ae) from by rw [HEK2.out]; exact if_pos hae)
        have hne : (ae != 0) = true := bne_iff_ne.2 hae
        have HGX := Lib.hid hGd
        clear hGd hae
        go_wp2_with fail
        go_returns
        rw [HE.out]
        exact ⟨_, rfl, OwnL.nil _ _ _ _, HGX.out⟩
      · have HE := Lib.hid (show extS l1 l2 (nn : Int) = (joinS (ints (I ++ [(xf, xc + k)] ++ al)), 0) from by rw [HEK2.out]; exact if_neg (fun h => h hae))
        subst hae
        have hLl : ((I ++ [(xf, xc + k)]).map rowN).length = I.length + 1 := by simp
        go_wp2_with (at_builtin; refine wpList_pushAll (by rfl) _ _ 22 rfl w.heap.size 25 2 16 _ Try.underlying22 info_run rfl (by decide) _ ((I ++ [(xf, xc + k)]).map rowN) (al.map rowN) (by rfl) hownd _ al.length _ (by rfl) (by rw [List.length_map]) (rowN_len al) hl4 (rowN_one al) (by rw [hLl]; omega) (by rw [hLl]; omega) hgsz ?_; intro v5 w5 hown5 hgr5 hat5)
        have g5 : Grew w w5 := Grew.own hGd hgr5 hownd.row_ge (Nat.le_refl _)
        rw [← List.map_append] at hown5
        have hb5 : ∀ r ∈ I ++ [(xf, xc + k)] ++ al, r.1 + r.2 ≤ 128 := fun r hr => (List.mem_append.1 hr).elim (hbL r) (HAB.out r)
        obtain ⟨A6, c6, hv6, hr6, _, _, _⟩ := own_runs2 hown5 (fun r hr => Nat.le_trans (hb5 r hr) (by omega))
        subst hv6
        have hjn := join_any A6 c6 (ints (I ++ [(xf, xc + k)] ++ al)) w5 w5.heap.size (Nat.le_refl _) (by rw [ints_len, List.length_append, List.length_append, List.length_singleton]; omega) hr6
        rw [ints_len] at hjn
        have HJN := Lib.hid hjn
        clear hjn hgr5 hat5 hown5 hownd hGd hl4 hown4 hr6
        go_wp2_with fail
        refine HJN.out.mono ?_
        rintro e w6 ⟨v6, rfl, hown6, g6⟩
        go_wp2_with fail
        go_returns
        rw [HE.out]
        exact ⟨_, rfl, hown6.mono g5.size, g5.trans g6⟩
end
end Go.Proofs.Ytenbcjlikoajdaa
