/- Chapter 6: SpaceSingle. -/
import Derived.Test.YtenbcjlikoajdaaSpcAE
import Derived.Test.YtenbcjlikoajdaaOrd3
namespace Go.Proofs.Ytenbcjlikoajdaa
set_option linter.unusedVariables false
set_option linter.unusedSimpArgs false
set_option linter.unusedSectionVars false
open Go.RowKit
theorem one_minus (l : List (Int × Int)) (x d : Nat) (h : x + d ≤ 128) (hd : 0 < d) (b : Bool) (hl : ∀ i, x ≤ i → i < x + d → memS l i = b) : (normS fun i => memS [((x : Int), (d : Int))] i && (if b then !memS l i else memS l i)) = [] := by
  refine normS_false (fun i _ => ?_)
  rw [mem_one x d h hd i]
  cases hdd : decide (x ≤ i ∧ i < x + d) with
  | false => rfl
  | true =>
    have h9 := of_decide_eq_true hdd
    rw [hl i h9.1 h9.2]
    cases b <;> rfl
theorem norm_one (x d : Nat) (h : x + d ≤ 128) (hd : 0 < d) : sizeS (ints (normS (memS [((x : Int), (d : Int))]))) = d := by
  rw [sizeS_normS]
  have e : (List.range 128).filter (memS [((x : Int), (d : Int))]) = seqN (x, d) := by
    have h1 : seqL (normS (memS [((x : Int), (d : Int))])) = (List.range 128).filter (memS [((x : Int), (d : Int))]) := seqL_norm _
    have h2 : seqS [((x : Int), (d : Int))] = seqN (x, d) := by rw [seqS_cons, seqN_clip x d h]; simp [seqS]
    have h3 : (seqN (x, d)).Pairwise (· < ·) := by unfold seqN; exact List.Pairwise.map _ (fun a b h => by omega) List.pairwise_lt_range
    have h4 : ((List.range 128).filter (memS [((x : Int), (d : Int))])).Pairwise (· < ·) := List.pairwise_lt_range.filter _
    refine List.Perm.eq_of_pairwise (le := (· < ·)) (fun a b _ _ h5 h6 => by omega) h4 h3 ?_
    rw [List.perm_ext_iff_of_nodup (List.nodup_range.filter _) (seqN_nodup _)]
    intro t
    rw [← h2, mem_seqS, List.mem_filter, List.mem_range]
    exact ⟨fun h => h.2, fun h => ⟨memS_lt _ _ h, h⟩⟩
  rw [e, seqN_len]
theorem single_left (e f : List (Int × Int)) (x d : Nat) (h : x + d ≤ 128) (hd : 0 < d) (hf : ∀ i, x ≤ i → i < x + d → memS f i = true) (U : List (Int × Int)) (hU : ints (normS fun i => memS f i || memS e i) = U) (L : List (Int × Int)) (hL : ints (normS fun i => memS U i && !memS [((x : Int), (d : Int))] i) = L) : sizeS L + d = sizeS U := by
  have h1 := size_without (memS U) (memS [((x : Int), (d : Int))]) (fun i hi hr => by
    rw [mem_one x d h hd i] at hr
    have h9 := of_decide_eq_true hr
    rw [← hU, memS_normS _ i hi, hf i h9.1 h9.2]; rfl)
  rw [hL, norm_one x d h hd, ← hU, normS_norm, hU] at h1
  exact h1
set_option maxRecDepth 100000 in
set_option maxHeartbeats 4000000 in
theorem spaceSingle_any (A1 A2 : Option Addr) (c1 c2 : Nat) (l1 l2 : List (Int × Int)) (w : World) (hl1 : l1.length ≤ 9223372036854775807) (hl2 : l2.length ≤ 9223372036854775807) (hr1 : RunsAt w w.heap.size A1 l1) (hr2 : RunsAt w w.heap.size A2 l2) :
    Calls Try.prog 7 #[.slice A1 l1.length c1, .slice A2 l2.length c2] w fun e w' => e = .returned (.bool true) ∧ Grew w w' := by
  have hG := Grew.refl w
  by_cases h30 : l1.length ≤ 30
  rotate_left
  · go_enter Try.func7, Try.ntmps7
    go_wp2_with fail
    refine (awake_any _).mono ?_
    rintro e ws ⟨rfl, gs⟩
    replace hG := hG.trans gs
    clear gs
    go_wp2_with fail
    refine (awake_any _).mono ?_
    rintro e ws ⟨rfl, gs⟩
    replace hG := hG.trans gs
    clear gs
    go_wp2_with fail
    go_ret
    exact ⟨rfl, hG⟩
  by_cases h31 : l2.length ≤ 30
  rotate_left
  · go_enter Try.func7, Try.ntmps7
    go_wp2_with fail
    refine (awake_any _).mono ?_
    rintro e ws ⟨rfl, gs⟩
    replace hG := hG.trans gs
    clear gs
    go_wp2_with fail
    refine (awake_any _).mono ?_
    rintro e ws ⟨rfl, gs⟩
    replace hG := hG.trans gs
    clear gs
    go_wp2_with fail
    go_ret
    exact ⟨rfl, hG⟩
  obtain ⟨⟨⟨a, b⟩, ok⟩, hc⟩ : ∃ X, conS l1 l2 = X := ⟨_, rfl⟩
  have HC := Lib.hid hc
  cases ok with
  | false =>
    obtain ⟨rfl, rfl⟩ := con_none _ _ _ _ hc
    clear hc
    go_enter Try.func7, Try.ntmps7
    go_wp2_with fail
    refine (awake_any _).mono ?_
    rintro e ws ⟨rfl, gs⟩
    replace hr1 := hr1.hold gs
    replace hr2 := hr2.hold gs
    replace hG := hG.trans gs
    clear gs
    go_wp2_with fail
    refine (consol_val rfl rfl (by omega) (by omega) hr1 hr2 0 0 false HC.out).mono ?_
    rintro e ws ⟨rfl, gs⟩
    replace hr1 := hr1.hold gs
    replace hr2 := hr2.hold gs
    replace hG := hG.trans gs
    clear gs
    go_wp2_with fail
    go_ret
    exact ⟨rfl, by (repeat' first | (with_reducible exact Grew.refl _) | (with_reducible assumption) | (with_reducible refine Grew.alloc ?_ _) | (with_reducible refine Grew.drew ?_) | (with_reducible refine Grew.drewN ?_ _) | (with_reducible refine Grew.setRow ?_ (by first | (simp; done) | (simp; omega) | omega) _) | (with_reducible refine Grew.setCell ?_ (by first | (simp; done) | (simp; omega) | omega) _) | ((with_reducible apply Grew.trans); rotate_left; (with_reducible assumption)) | ((with_reducible apply Grew.turn); rotate_left; (with_reducible assumption); (focus (intro i hi; first | omega | (simp at hi; omega)))) | fail)⟩
  | true =>
    obtain ⟨k1, k2, x, d, rfl, k3, k4, k5, k6⟩ := con_ok _ _ _ _ hc
    subst k3
    have hs : sizeS l1 = d := by omega
    obtain ⟨jl, hj⟩ : ∃ j, ints (joinS l1) = j := ⟨_, rfl⟩
    have hjl : jl.length = (joinS l1).length := by rw [← hj, ints_len]
    have hj2 : 2 ≤ jl.length := by omega
    have hj30 : jl.length ≤ 30 := by have := joinS_len l1; omega
    obtain ⟨nd, hnd⟩ : ∃ b, decide (seqS l1).Nodup = b := ⟨_, rfl⟩
    obtain ⟨U, hU⟩ : ∃ U, ints (normS fun i => memS l2 i || memS l1 i) = U := ⟨_, rfl⟩
    obtain ⟨L, hL⟩ : ∃ L, ints (normS fun i => memS U i && !memS [((x : Int), (d : Int))] i) = L := ⟨_, rfl⟩
    have hUl : U.length ≤ 128 := by rw [← hU, ints_len]; exact normS_len _
    have hLl : L.length ≤ 128 := by rw [← hL, ints_len]; exact normS_len _
    have hLU := single_left l1 l2 x d k5 k4 (fun i a b => (k6 i a b).1) U hU L hL
    obtain ⟨sU, hsU⟩ : ∃ s, sizeS U = s := ⟨_, rfl⟩
    obtain ⟨sL, hsL⟩ : ∃ s, sizeS L = s := ⟨_, rfl⟩
    have hsUl := sizeS_le U
    rw [hsU] at hLU hsUl
    rw [hsL] at hLU
    have HM1 := Lib.hid (show ints (normS fun i => memS [((x : Int), (d : Int))] i && !memS l2 i) = [] from by have := one_minus l2 x d k5 k4 true (fun i a b => (k6 i a b).1); simp only [if_true] at this; rw [this]; rfl)
    have HM2 := Lib.hid (show ints (normS fun i => memS [((x : Int), (d : Int))] i && memS l1 i) = [] from by have := one_minus l1 x d k5 k4 false (fun i a b => (k6 i a b).2); simp only [Bool.false_eq_true, if_false] at this; rw [this]; rfl)
    have HS := Lib.hid hs
    have HJ := Lib.hid hj
    have HN := Lib.hid hnd
    have HU := Lib.hid hU
    have HL := Lib.hid hL
    have HSU := Lib.hid hsU
    have HSL := Lib.hid hsL
    have hdd : ((d : Int) != (d : Int)) = false := by simp
    have HOK := Lib.hid (show ∀ r ∈ [((x : Int), (d : Int))], okRun r from by intro r hr; rw [List.mem_singleton.1 hr]; unfold okRun; simp only; omega)
    have hlu : sL + d = sU := hLU
    clear hc hs hj hjl hnd hU hL hsU hsL k1 k2 k6 hLU
    go_enter Try.func7, Try.ntmps7
    go_wp2_with fail
    refine (awake_any _).mono ?_
    rintro e ws ⟨rfl, gs⟩
    replace hr1 := hr1.hold gs
    replace hr2 := hr2.hold gs
    replace hG := hG.trans gs
    clear gs
    go_wp2_with fail
    refine (consol_val rfl rfl (by omega) (by omega) hr1 hr2 (x : Int) (d : Int) true HC.out).mono ?_
    rintro e ws ⟨rfl, gs⟩
    replace hr1 := hr1.hold gs
    replace hr2 := hr2.hold gs
    replace hG := hG.trans gs
    clear gs
    have hb5 := Blk.new ws 25 #[.int .i64 (x : Int), .int .i64 (d : Int)] rfl
    have gal := (Grew.refl ws).alloc (.cells #[.int .i64 (x : Int), .int .i64 (d : Int)] 25)
    replace hr1 := hr1.hold gal
    replace hr2 := hr2.hold gal
    replace hG := hG.trans gal
    clear gal
    go_wp2_with fail
    obtain ⟨wr, hwr⟩ : ∃ w', w' = ws.alloc (.cells #[.int .i64 (x : Int), .int .i64 (d : Int)] 25) := ⟨_, rfl⟩
    obtain ⟨g5, hg5⟩ : ∃ g, g = ws.heap.size := ⟨_, rfl⟩
    rw [← hwr] at hb5 hr1 hr2 hG ⊢
    rw [← hg5] at hb5 ⊢
    clear hwr hg5
    refine wp_region_R [] (fun w' : World => w'.cell? ⟨g5, 0, none⟩ = some (.int .i64 (x : Int)) ∧ w'.cell? ⟨g5, 1, none⟩ = some (.int .i64 (d : Int))) (by kernel_rfl) ?_
    have hS := (show (fun w' : World => w'.cell? ⟨g5, 0, none⟩ = some (.int .i64 (x : Int)) ∧ w'.cell? ⟨g5, 1, none⟩ = some (.int .i64 (d : Int))) wr.drew from ⟨hb5.drew.cell 0, hb5.drew.cell 1⟩)
    refine wpAnyR_takeQ (i := 0) (v := ?_) (some 32) rfl rfl (by kernel_rfl) (by kernel_rfl) (by kernel_rfl) (by kernel_rfl) (fun _ _ _ h => h) (Or.inl ⟨by rfl, ?_⟩) ?_
    rotate_left
    focus (intro wS hSw; (try dsimp only at hSw); go_simp; (try with_reducible rfl); (try (first | (rw [if_pos (by omega)]; (try go_simp); (try with_reducible rfl)) | (rw [if_neg (by omega)]; (try go_simp); (try with_reducible rfl)))))
    try simp only [Act.put, List.setIfInBounds_toArray, List.set_cons_zero, List.set_cons_succ]
    refine wpAnyR_take (i := 1) (v := ?_) [4, 5, 6, 7, 8, 9, 10, 11, 12, 13, 14, 15, 16, 17, 18, 19, 20, 21, 22, 23, 24, 25, 26] (some 33) rfl rfl (by kernel_rfl) (by kernel_rfl) (by kernel_rfl) (by kernel_rfl) (by kernel_rfl) (by kernel_rfl) (by kernel_rfl) (fun _ _ _ h => h) (Or.inl ⟨by rfl, ?_⟩) hS ?_
    rotate_left
    focus (intro wS hSw; (try dsimp only at hSw); go_simp; (try with_reducible rfl); (try (first | (rw [if_pos (by omega)]; (try go_simp); (try with_reducible rfl)) | (rw [if_neg (by omega)]; (try go_simp); (try with_reducible rfl)))))
    try simp only [Act.put, List.setIfInBounds_toArray, List.set_cons_zero, List.set_cons_succ]
    refine wpAnyR_takeQ (i := 2) (v := ?_) (some 34) rfl rfl (by kernel_rfl) (by kernel_rfl) (by kernel_rfl) (by kernel_rfl) (fun _ _ _ h => h) (Or.inl ⟨by rfl, ?_⟩) ?_
    rotate_left
    focus (intro wS hSw; (try dsimp only at hSw); go_simp; (try with_reducible rfl); (try (first | (rw [if_pos (by omega)]; (try go_simp); (try with_reducible rfl)) | (rw [if_neg (by omega)]; (try go_simp); (try with_reducible rfl)))))
    try simp only [Act.put, List.setIfInBounds_toArray, List.set_cons_zero, List.set_cons_succ]
    refine wpAnyR_n1 (i := 3) rfl (by kernel_rfl) ?_
    intro K' hK
    rw [if_pos (by rfl)]
    simp only [List.getElem_toArray, List.getElem_cons_succ, List.getElem_cons_zero]
    go_wp2_with fail
    refine (size_val (w := wr.drew) rfl (by omega) hr1 d HS.out).mono ?_
    rintro e wa ⟨rfl, ga⟩
    go_wp2_with fail
    have hba := hb5.drew.grew ga
    have r1a := RunsAt.hold (w := wr.drew) hr1 ga
    have r2a := RunsAt.hold (w := wr.drew) hr2 ga
    have Ga : Grew w wa := hG.drew.trans ga
    refine hK.out _ _ (.inr (fun _ => ⟨hba.cell 0, hba.cell 1⟩)) ?_
    clear hK hS ga hb5 hr1 hr2 hG
    have hS := (show (fun w' : World => w'.cell? ⟨g5, 0, none⟩ = some (.int .i64 (x : Int)) ∧ w'.cell? ⟨g5, 1, none⟩ = some (.int .i64 (d : Int))) wa from ⟨hba.cell 0, hba.cell 1⟩)
    refine wpAnyR_takeQ (i := 4) (v := ?_) (some 36) rfl rfl (by kernel_rfl) (by kernel_rfl) (by kernel_rfl) (by kernel_rfl) (fun _ _ _ h => h) (Or.inl ⟨by rfl, ?_⟩) ?_
    rotate_left
    focus (intro wS hSw; (try dsimp only at hSw); go_simp; (try with_reducible rfl); (try (first | (rw [if_pos (by omega)]; (try go_simp); (try with_reducible rfl)) | (rw [if_neg (by omega)]; (try go_simp); (try with_reducible rfl)))))
    try simp only [Act.put, List.setIfInBounds_toArray, List.set_cons_zero, List.set_cons_succ]
    refine wpAnyR_takeQ (i := 5) (v := ?_) (some 37) rfl rfl (by kernel_rfl) (by kernel_rfl) (by kernel_rfl) (by kernel_rfl) (fun _ _ _ h => h) (Or.inl ⟨by rfl, ?_⟩) ?_
    rotate_left
    focus (intro wS hSw; (try dsimp only at hSw); go_simp; (try with_reducible rfl); (try (first | (rw [if_pos (by omega)]; (try go_simp); (try with_reducible rfl)) | (rw [if_neg (by omega)]; (try go_simp); (try with_reducible rfl)))))
    try simp only [Act.put, List.setIfInBounds_toArray, List.set_cons_zero, List.set_cons_succ]
    try rw [hdd]
    refine wpAnyR_take (i := 6) (v := ?_) [7, 9, 10, 11, 12, 13, 14, 15, 16, 17, 18, 19, 20, 21, 22, 23, 24, 25, 26] (some 38) rfl rfl (by kernel_rfl) (by kernel_rfl) (by kernel_rfl) (by kernel_rfl) (by kernel_rfl) (by kernel_rfl) (by kernel_rfl) (fun _ _ _ h => h) (Or.inl ⟨by rfl, ?_⟩) hS ?_
    rotate_left
    focus (intro wS hSw; (try dsimp only at hSw); go_simp; (try with_reducible rfl); (try (first | (rw [if_pos (by omega)]; (try go_simp); (try with_reducible rfl)) | (rw [if_neg (by omega)]; (try go_simp); (try with_reducible rfl)))))
    try simp only [Act.put, List.setIfInBounds_toArray, List.set_cons_zero, List.set_cons_succ]
    refine wpAnyR_takeQ (i := 8) (v := ?_) (some 40) rfl rfl (by kernel_rfl) (by kernel_rfl) (by kernel_rfl) (by kernel_rfl) (fun _ _ _ h => h) (Or.inl ⟨by rfl, ?_⟩) ?_
    rotate_left
    focus (intro wS hSw; (try dsimp only at hSw); go_simp; (try with_reducible rfl); (try (first | (rw [if_pos (by omega)]; (try go_simp); (try with_reducible rfl)) | (rw [if_neg (by omega)]; (try go_simp); (try with_reducible rfl)))))
    try simp only [Act.put, List.setIfInBounds_toArray, List.set_cons_zero, List.set_cons_succ]
    refine wpAnyR_n1 (i := 7) rfl (by kernel_rfl) ?_
    intro K' hK
    rw [if_pos (by rfl)]
    simp only [List.getElem_toArray, List.getElem_cons_succ, List.getElem_cons_zero]
    go_wp2_with fail
    have gb := (Grew.refl wa).alloc (.cells #[.int .i64 (x : Int), .int .i64 (d : Int)] 25)
    have hbb := hba.grew gb
    have r1b := r1a.hold gb
    have r2b := r2a.hold gb
    have rxb := blk_runs (l := [((x : Int), (d : Int))]) (Blk.new wa 25 #[.int .i64 (x : Int), .int .i64 (d : Int)] rfl) rfl HOK.out
    have Gb := Ga.trans gb
    refine hK.out _ _ (.inr (fun _ => ⟨hbb.cell 0, hbb.cell 1⟩)) ?_
    clear hK hS gb hba r1a r2a Ga
    refine wpAnyR_n1 (i := 9) rfl (by kernel_rfl) ?_
    intro K' hK
    rw [if_pos (by rfl)]
    simp only [List.getElem_toArray, List.getElem_cons_succ, List.getElem_cons_zero]
    go_wp2_with fail
    refine (minus_val rfl rfl (by simp) (by omega) rxb r2b [] HM1.out).mono ?_
    rintro e wc ⟨A7, c7, rfl, r7, gc⟩
    go_wp2_with fail
    have hbc := hbb.grew gc
    have r1c := r1b.hold gc
    have r2c := r2b.hold gc
    have Gc := Gb.trans gc
    refine hK.out _ _ (.inr (fun _ => ⟨hbc.cell 0, hbc.cell 1⟩)) ?_
    clear hK gc hbb r1b r2b Gb rxb r7
    have hS := (show (fun w' : World => w'.cell? ⟨g5, 0, none⟩ = some (.int .i64 (x : Int)) ∧ w'.cell? ⟨g5, 1, none⟩ = some (.int .i64 (d : Int))) wc from ⟨hbc.cell 0, hbc.cell 1⟩)
    refine wpAnyR_take (i := 10) (v := ?_) [11, 12, 13, 14, 15, 16, 17, 18, 19, 20, 21, 22, 23, 24, 25, 26] (some 42) rfl rfl (by kernel_rfl) (by kernel_rfl) (by kernel_rfl) (by kernel_rfl) (by kernel_rfl) (by kernel_rfl) (by kernel_rfl) (fun _ _ _ h => h) (Or.inl ⟨by rfl, ?_⟩) hS ?_
    rotate_left
    focus (intro wS hSw; (try dsimp only at hSw); go_simp; (try with_reducible rfl); (try (first | (rw [if_pos (by omega)]; (try go_simp); (try with_reducible rfl)) | (rw [if_neg (by omega)]; (try go_simp); (try with_reducible rfl)))))
    try simp only [Act.put, List.setIfInBounds_toArray, List.set_cons_zero, List.set_cons_succ]
    refine wpAnyR_takeQ (i := 11) (v := ?_) (some 43) rfl rfl (by kernel_rfl) (by kernel_rfl) (by kernel_rfl) (by kernel_rfl) (fun _ _ _ h => h) (Or.inl ⟨by rfl, ?_⟩) ?_
    rotate_left
    focus (intro wS hSw; (try dsimp only at hSw); go_simp; (try with_reducible rfl); (try (first | (rw [if_pos (by omega)]; (try go_simp); (try with_reducible rfl)) | (rw [if_neg (by omega)]; (try go_simp); (try with_reducible rfl)))))
    try simp only [Act.put, List.setIfInBounds_toArray, List.set_cons_zero, List.set_cons_succ]
    refine wpAnyR_takeQ (i := 12) (v := ?_) (some 44) rfl rfl (by kernel_rfl) (by kernel_rfl) (by kernel_rfl) (by kernel_rfl) (fun _ _ _ h => h) (Or.inl ⟨by rfl, ?_⟩) ?_
    rotate_left
    focus (intro wS hSw; (try dsimp only at hSw); go_simp; (try with_reducible rfl); (try (first | (rw [if_pos (by omega)]; (try go_simp); (try with_reducible rfl)) | (rw [if_neg (by omega)]; (try go_simp); (try with_reducible rfl)))))
    try simp only [Act.put, List.setIfInBounds_toArray, List.set_cons_zero, List.set_cons_succ]
    refine wpAnyR_takeQ (i := 13) (v := ?_) (some 45) rfl rfl (by kernel_rfl) (by kernel_rfl) (by kernel_rfl) (by kernel_rfl) (fun _ _ _ h => h) (Or.inl ⟨by rfl, ?_⟩) ?_
    rotate_left
    focus (intro wS hSw; (try dsimp only at hSw); go_simp; (try with_reducible rfl); (try (first | (rw [if_pos (by omega)]; (try go_simp); (try with_reducible rfl)) | (rw [if_neg (by omega)]; (try go_simp); (try with_reducible rfl)))))
    try simp only [Act.put, List.setIfInBounds_toArray, List.set_cons_zero, List.set_cons_succ]
    refine wpAnyR_take (i := 14) (v := ?_) [15, 17, 18, 19, 20, 21, 22, 23, 24, 25, 26] (some 46) rfl rfl (by kernel_rfl) (by kernel_rfl) (by kernel_rfl) (by kernel_rfl) (by kernel_rfl) (by kernel_rfl) (by kernel_rfl) (fun _ _ _ h => h) (Or.inl ⟨by rfl, ?_⟩) hS ?_
    rotate_left
    focus (intro wS hSw; (try dsimp only at hSw); go_simp; (try with_reducible rfl); (try (first | (rw [if_pos (by omega)]; (try go_simp); (try with_reducible rfl)) | (rw [if_neg (by omega)]; (try go_simp); (try with_reducible rfl)))))
    try simp only [Act.put, List.setIfInBounds_toArray, List.set_cons_zero, List.set_cons_succ]
    refine wpAnyR_takeQ (i := 16) (v := ?_) (some 48) rfl rfl (by kernel_rfl) (by kernel_rfl) (by kernel_rfl) (by kernel_rfl) (fun _ _ _ h => h) (Or.inl ⟨by rfl, ?_⟩) ?_
    rotate_left
    focus (intro wS hSw; (try dsimp only at hSw); go_simp; (try with_reducible rfl); (try (first | (rw [if_pos (by omega)]; (try go_simp); (try with_reducible rfl)) | (rw [if_neg (by omega)]; (try go_simp); (try with_reducible rfl)))))
    try simp only [Act.put, List.setIfInBounds_toArray, List.set_cons_zero, List.set_cons_succ]
    refine wpAnyR_n1 (i := 15) rfl (by kernel_rfl) ?_
    intro K' hK
    rw [if_pos (by rfl)]
    simp only [List.getElem_toArray, List.getElem_cons_succ, List.getElem_cons_zero]
    go_wp2_with fail
    have gd := (Grew.refl wc).alloc (.cells #[.int .i64 (x : Int), .int .i64 (d : Int)] 25)
    have hbd := hbc.grew gd
    have r1d := r1c.hold gd
    have r2d := r2c.hold gd
    have rxd := blk_runs (l := [((x : Int), (d : Int))]) (Blk.new wc 25 #[.int .i64 (x : Int), .int .i64 (d : Int)] rfl) rfl HOK.out
    have Gd := Gc.trans gd
    refine hK.out _ _ (.inr (fun _ => ⟨hbd.cell 0, hbd.cell 1⟩)) ?_
    clear hK hS gd hbc r1c r2c Gc
    refine wpAnyR_n1 (i := 17) rfl (by kernel_rfl) ?_
    intro K' hK
    rw [if_pos (by rfl)]
    simp only [List.getElem_toArray, List.getElem_cons_succ, List.getElem_cons_zero]
    go_wp2_with fail
    refine (common_val rfl rfl (by simp) (by omega) rxd r1d [] HM2.out).mono ?_
    rintro e we ⟨A8, c8, rfl, r8, ge⟩
    go_wp2_with fail
    have hbe := hbd.grew ge
    have r1e := r1d.hold ge
    have r2e := r2d.hold ge
    have Ge := Gd.trans ge
    refine hK.out _ _ (.inr (fun _ => ⟨hbe.cell 0, hbe.cell 1⟩)) ?_
    clear hK ge hbd r1d r2d Gd rxd r8
    have hS := (show (fun w' : World => w'.cell? ⟨g5, 0, none⟩ = some (.int .i64 (x : Int)) ∧ w'.cell? ⟨g5, 1, none⟩ = some (.int .i64 (d : Int))) we from ⟨hbe.cell 0, hbe.cell 1⟩)
    refine wpAnyR_take (i := 18) (v := ?_) [19, 20, 21, 22, 23, 24, 25, 26] (some 50) rfl rfl (by kernel_rfl) (by kernel_rfl) (by kernel_rfl) (by kernel_rfl) (by kernel_rfl) (by kernel_rfl) (by kernel_rfl) (fun _ _ _ h => h) (Or.inl ⟨by rfl, ?_⟩) hS ?_
    rotate_left
    focus (intro wS hSw; (try dsimp only at hSw); go_simp; (try with_reducible rfl); (try (first | (rw [if_pos (by omega)]; (try go_simp); (try with_reducible rfl)) | (rw [if_neg (by omega)]; (try go_simp); (try with_reducible rfl)))))
    try simp only [Act.put, List.setIfInBounds_toArray, List.set_cons_zero, List.set_cons_succ]
    refine wpAnyR_takeQ (i := 19) (v := ?_) (some 51) rfl rfl (by kernel_rfl) (by kernel_rfl) (by kernel_rfl) (by kernel_rfl) (fun _ _ _ h => h) (Or.inl ⟨by rfl, ?_⟩) ?_
    rotate_left
    focus (intro wS hSw; (try dsimp only at hSw); go_simp; (try with_reducible rfl); (try (first | (rw [if_pos (by omega)]; (try go_simp); (try with_reducible rfl)) | (rw [if_neg (by omega)]; (try go_simp); (try with_reducible rfl)))))
    try simp only [Act.put, List.setIfInBounds_toArray, List.set_cons_zero, List.set_cons_succ]
    refine wpAnyR_takeQ (i := 20) (v := ?_) (some 52) rfl rfl (by kernel_rfl) (by kernel_rfl) (by kernel_rfl) (by kernel_rfl) (fun _ _ _ h => h) (Or.inl ⟨by rfl, ?_⟩) ?_
    rotate_left
    focus (intro wS hSw; (try dsimp only at hSw); go_simp; (try with_reducible rfl); (try (first | (rw [if_pos (by omega)]; (try go_simp); (try with_reducible rfl)) | (rw [if_neg (by omega)]; (try go_simp); (try with_reducible rfl)))))
    try simp only [Act.put, List.setIfInBounds_toArray, List.set_cons_zero, List.set_cons_succ]
    refine wpAnyR_takeQ (i := 21) (v := ?_) (some 53) rfl rfl (by kernel_rfl) (by kernel_rfl) (by kernel_rfl) (by kernel_rfl) (fun _ _ _ h => h) (Or.inl ⟨by rfl, ?_⟩) ?_
    rotate_left
    focus (intro wS hSw; (try dsimp only at hSw); go_simp; (try with_reducible rfl); (try (first | (rw [if_pos (by omega)]; (try go_simp); (try with_reducible rfl)) | (rw [if_neg (by omega)]; (try go_simp); (try with_reducible rfl)))))
    try simp only [Act.put, List.setIfInBounds_toArray, List.set_cons_zero, List.set_cons_succ]
    refine wpAnyR_takeQ (i := 22) (v := ?_) (some 54) rfl rfl (by kernel_rfl) (by kernel_rfl) (by kernel_rfl) (by kernel_rfl) (fun _ _ _ h => h) (Or.inl ⟨by rfl, ?_⟩) ?_
    rotate_left
    focus (intro wS hSw; (try dsimp only at hSw); go_simp; (try with_reducible rfl); (try (first | (rw [if_pos (by omega)]; (try go_simp); (try with_reducible rfl)) | (rw [if_neg (by omega)]; (try go_simp); (try with_reducible rfl)))))
    try simp only [Act.put, List.setIfInBounds_toArray, List.set_cons_zero, List.set_cons_succ]
    refine wpAnyR_n1 (i := 23) rfl (by kernel_rfl) ?_
    intro K' hK
    rw [if_pos (by rfl)]
    simp only [List.getElem_toArray, List.getElem_cons_succ, List.getElem_cons_zero]
    go_wp2_with fail
    refine (join_val _ _ _ _ _ rfl (by omega) r1e jl HJ.out).mono ?_
    rintro e wf ⟨A9, c9, rfl, r9, gf⟩
    go_wp2_with fail
    have hbf := hbe.grew gf
    have r1f := r1e.hold gf
    have r2f := r2e.hold gf
    have Gf := Ge.trans gf
    refine hK.out _ _ (.inr (fun _ => ⟨hbf.cell 0, hbf.cell 1⟩)) ?_
    clear hK hS gf hbe r1e r2e Ge r9
    have hS := (show (fun w' : World => w'.cell? ⟨g5, 0, none⟩ = some (.int .i64 (x : Int)) ∧ w'.cell? ⟨g5, 1, none⟩ = some (.int .i64 (d : Int))) wf from ⟨hbf.cell 0, hbf.cell 1⟩)
    refine wpAnyR_take (i := 24) (v := ?_) [25, 26] (some 56) rfl rfl (by kernel_rfl) (by kernel_rfl) (by kernel_rfl) (by kernel_rfl) (by kernel_rfl) (by kernel_rfl) (by kernel_rfl) (fun _ _ _ h => h) (Or.inl ⟨by rfl, ?_⟩) hS ?_
    rotate_left
    focus (intro wS hSw; (try dsimp only at hSw); go_simp; (try with_reducible rfl); (try (first | (rw [if_pos (by omega)]; (try go_simp); (try with_reducible rfl)) | (rw [if_neg (by omega)]; (try go_simp); (try with_reducible rfl)))))
    try simp only [Act.put, List.setIfInBounds_toArray, List.set_cons_zero, List.set_cons_succ]
    refine wpAnyR_takeQ (i := 25) (v := ?_) (some 57) rfl rfl (by kernel_rfl) (by kernel_rfl) (by kernel_rfl) (by kernel_rfl) (fun _ _ _ h => h) (Or.inl ⟨by rfl, ?_⟩) ?_
    rotate_left
    focus (intro wS hSw; (try dsimp only at hSw); go_simp; (try with_reducible rfl); (try (first | (rw [if_pos (by omega)]; (try go_simp); (try with_reducible rfl)) | (rw [if_neg (by omega)]; (try go_simp); (try with_reducible rfl)))))
    try simp only [Act.put, List.setIfInBounds_toArray, List.set_cons_zero, List.set_cons_succ]
    refine wpAnyR_takeQ (i := 26) (v := ?_) (some 58) rfl rfl (by kernel_rfl) (by kernel_rfl) (by kernel_rfl) (by kernel_rfl) (fun _ _ _ h => h) (Or.inl ⟨by rfl, ?_⟩) ?_
    rotate_left
    focus (intro wS hSw; (try dsimp only at hSw); go_simp; (try with_reducible rfl); (try (first | (rw [if_pos (by omega)]; (try go_simp); (try with_reducible rfl)) | (rw [if_neg (by omega)]; (try go_simp); (try with_reducible rfl)))))
    try simp only [Act.put, List.setIfInBounds_toArray, List.set_cons_zero, List.set_cons_succ]
    refine wpAnyR_done (by kernel_rfl) ?_ _
    clear hS
    cases nd with
    | false =>
      go_wp2_with fail
      refine (disjoint_val rfl (by omega) r1f false HN.out).mono ?_
      rintro e wg ⟨rfl, gg⟩
      go_wp2_with fail
      go_ret
      exact ⟨rfl, Gf.trans gg⟩
    | true =>
      go_wp2_with fail
      refine (disjoint_val rfl (by omega) r1f true HN.out).mono ?_
      rintro e wg ⟨rfl, gg⟩
      replace hbf := hbf.grew gg
      replace r1f := r1f.hold gg
      replace r2f := r2f.hold gg
      replace Gf := Gf.trans gg
      clear gg
      go_wp2_with fail
      refine wp_region_R [] (fun w' : World => w'.cell? ⟨g5, 0, none⟩ = some (.int .i64 (x : Int)) ∧ w'.cell? ⟨g5, 1, none⟩ = some (.int .i64 (d : Int))) (by kernel_rfl) ?_
      have hS := (show (fun w' : World => w'.cell? ⟨g5, 0, none⟩ = some (.int .i64 (x : Int)) ∧ w'.cell? ⟨g5, 1, none⟩ = some (.int .i64 (d : Int))) wg.drew from ⟨hbf.drew.cell 0, hbf.drew.cell 1⟩)
      refine wpAnyR_takeQ (i := 0) (v := ?_) (some 62) rfl rfl (by kernel_rfl) (by kernel_rfl) (by kernel_rfl) (by kernel_rfl) (fun _ _ _ h => h) (Or.inl ⟨by rfl, ?_⟩) ?_
      rotate_left
      focus (intro wS hSw; (try dsimp only at hSw); go_simp; (try with_reducible rfl); (try (first | (rw [if_pos (by omega)]; (try go_simp); (try with_reducible rfl)) | (rw [if_neg (by omega)]; (try go_simp); (try with_reducible rfl)))))
      try simp only [Act.put, List.setIfInBounds_toArray, List.set_cons_zero, List.set_cons_succ]
      refine wpAnyR_takeQ (i := 1) (v := ?_) (some 63) rfl rfl (by kernel_rfl) (by kernel_rfl) (by kernel_rfl) (by kernel_rfl) (fun _ _ _ h => h) (Or.inl ⟨by rfl, ?_⟩) ?_
      rotate_left
      focus (intro wS hSw; (try dsimp only at hSw); go_simp; (try with_reducible rfl); (try (first | (rw [if_pos (by omega)]; (try go_simp); (try with_reducible rfl)) | (rw [if_neg (by omega)]; (try go_simp); (try with_reducible rfl)))))
      try simp only [Act.put, List.setIfInBounds_toArray, List.set_cons_zero, List.set_cons_succ]
      refine wpAnyR_take (i := 3) (v := ?_) [4, 5, 6] (some 65) rfl rfl (by kernel_rfl) (by kernel_rfl) (by kernel_rfl) (by kernel_rfl) (by kernel_rfl) (by kernel_rfl) (by kernel_rfl) (fun _ _ _ h => h) (Or.inl ⟨by rfl, ?_⟩) hS ?_
      rotate_left
      focus (intro wS hSw; (try dsimp only at hSw); go_simp; (try with_reducible rfl); (try (first | (rw [if_pos (by omega)]; (try go_simp); (try with_reducible rfl)) | (rw [if_neg (by omega)]; (try go_simp); (try with_reducible rfl)))))
      try simp only [Act.put, List.setIfInBounds_toArray, List.set_cons_zero, List.set_cons_succ]
      refine wpAnyR_n2 (i := 2) (j := 4) rfl rfl (by kernel_rfl) ?faa ?fab
      case' faa =>
        intro K' hK
        rw [if_pos (by rfl)]
        simp only [List.getElem_toArray, List.getElem_cons_succ, List.getElem_cons_zero]
        go_wp2_with fail
        refine (union_val (w := wg.drew) rfl rfl (by omega) (by omega) r2f r1f U HU.out).mono ?_
        rintro e wh ⟨AU, cU, rfl, rU, gh⟩
        go_wp2_with fail
        have hbh := hbf.drew.grew gh
        have r1h := RunsAt.hold (w := wg.drew) r1f gh
        have r2h := RunsAt.hold (w := wg.drew) r2f gh
        have Gh : Grew w wh := Gf.drew.trans gh
        refine hK.out _ _ (.inr (fun _ => ⟨hbh.cell 0, hbh.cell 1⟩)) ?_
        clear hK hS gh
        refine wpAnyR_n1 (i := 4) rfl (by kernel_rfl) ?_
        intro K' hK
        rw [if_pos (by rfl)]
        simp only [List.getElem_toArray, List.getElem_cons_succ, List.getElem_cons_zero]
        go_wp2_with fail
        have gi := (Grew.refl wh).alloc (.cells #[.int .i64 (x : Int), .int .i64 (d : Int)] 25)
        have hbi := hbh.grew gi
        have r1i := r1h.hold gi
        have r2i := r2h.hold gi
        have rUi := rU.hold gi
        have rxi := blk_runs (l := [((x : Int), (d : Int))]) (Blk.new wh 25 #[.int .i64 (x : Int), .int .i64 (d : Int)] rfl) rfl HOK.out
        have Gi := Gh.trans gi
        refine hK.out _ _ (.inr (fun _ => ⟨hbi.cell 0, hbi.cell 1⟩)) ?_
        clear hK gi hbh r1h r2h rU Gh hbf r1f r2f Gf
      case' fab =>
        intro K' hK
        rw [if_pos (by rfl)]
        simp only [List.getElem_toArray, List.getElem_cons_succ, List.getElem_cons_zero]
        go_wp2_with fail
        have gh := (Grew.refl wg.drew).alloc (.cells #[.int .i64 (x : Int), .int .i64 (d : Int)] 25)
        have hbh := hbf.drew.grew gh
        have r1h := RunsAt.hold (w := wg.drew) r1f gh
        have r2h := RunsAt.hold (w := wg.drew) r2f gh
        have rxh := blk_runs (l := [((x : Int), (d : Int))]) (Blk.new wg.drew 25 #[.int .i64 (x : Int), .int .i64 (d : Int)] rfl) rfl HOK.out
        have Gh : Grew w _ := Gf.drew.trans gh
        refine hK.out _ _ (.inr (fun _ => ⟨hbh.cell 0, hbh.cell 1⟩)) ?_
        clear hK hS gh
        refine wpAnyR_n1 (i := 2) rfl (by kernel_rfl) ?_
        intro K' hK
        rw [if_pos (by rfl)]
        simp only [List.getElem_toArray, List.getElem_cons_succ, List.getElem_cons_zero]
        go_wp2_with fail
        refine (union_val rfl rfl (by omega) (by omega) r2h r1h U HU.out).mono ?_
        rintro e wi ⟨AU, cU, rfl, rUi, gi⟩
        go_wp2_with fail
        have hbi := hbh.grew gi
        have r1i := r1h.hold gi
        have r2i := r2h.hold gi
        have rxi := rxh.hold gi
        have Gi := Gh.trans gi
        refine hK.out _ _ (.inr (fun _ => ⟨hbi.cell 0, hbi.cell 1⟩)) ?_
        clear hK gi hbh r1h r2h rxh Gh hbf r1f r2f Gf
      all_goals
        refine wpAnyR_n1 (i := 5) rfl (by kernel_rfl) ?_
        intro K' hK
        rw [if_pos (by rfl)]
        simp only [List.getElem_toArray, List.getElem_cons_succ, List.getElem_cons_zero]
        go_wp2_with fail
        refine (minus_val rfl rfl (by omega) (by simp) rUi rxi L HL.out).mono ?_
        rintro e wj ⟨AL, cL, rfl, rL, gj⟩
        go_wp2_with fail
        have hbj := hbi.grew gj
        have r1j := r1i.hold gj
        have r2j := r2i.hold gj
        have Gj := Gi.trans gj
        refine hK.out _ _ (.inr (fun _ => ⟨hbj.cell 0, hbj.cell 1⟩)) ?_
        clear hK gj hbi r1i r2i Gi rxi rUi
        refine wpAnyR_takeQ (i := 6) (v := ?_) (some 7) rfl rfl (by kernel_rfl) (by kernel_rfl) (by kernel_rfl) (by kernel_rfl) (fun _ _ _ h => h) (Or.inl ⟨by rfl, ?_⟩) ?_
        rotate_left
        focus (intro wS hSw; (try dsimp only at hSw); go_simp; (try with_reducible rfl); (try (first | (rw [if_pos (by omega)]; (try go_simp); (try with_reducible rfl)) | (rw [if_neg (by omega)]; (try go_simp); (try with_reducible rfl)))))
        try simp only [Act.put, List.setIfInBounds_toArray, List.set_cons_zero, List.set_cons_succ]
        refine wpAnyR_done (by kernel_rfl) ?_ _
        go_wp2_with fail
        refine wp_region_R [] (fun w' : World => w'.cell? ⟨g5, 0, none⟩ = some (.int .i64 (x : Int)) ∧ w'.cell? ⟨g5, 1, none⟩ = some (.int .i64 (d : Int))) (by kernel_rfl) ?_
        have hS := (show (fun w' : World => w'.cell? ⟨g5, 0, none⟩ = some (.int .i64 (x : Int)) ∧ w'.cell? ⟨g5, 1, none⟩ = some (.int .i64 (d : Int))) wj.drew from ⟨hbj.drew.cell 0, hbj.drew.cell 1⟩)
        refine wpAnyR_takeQ (i := 0) (v := ?_) (some 68) rfl rfl (by kernel_rfl) (by kernel_rfl) (by kernel_rfl) (by kernel_rfl) (fun _ _ _ h => h) (Or.inl ⟨by rfl, ?_⟩) ?_
        rotate_left
        focus (intro wS hSw; (try dsimp only at hSw); go_simp; (try with_reducible rfl); (try (first | (rw [if_pos (by omega)]; (try go_simp); (try with_reducible rfl)) | (rw [if_neg (by omega)]; (try go_simp); (try with_reducible rfl)))))
        try simp only [Act.put, List.setIfInBounds_toArray, List.set_cons_zero, List.set_cons_succ]
        refine wpAnyR_takeQ (i := 2) (v := ?_) (some 70) rfl rfl (by kernel_rfl) (by kernel_rfl) (by kernel_rfl) (by kernel_rfl) (fun _ _ _ h => h) (Or.inl ⟨by rfl, ?_⟩) ?_
        rotate_left
        focus (intro wS hSw; (try dsimp only at hSw); go_simp; (try with_reducible rfl); (try (first | (rw [if_pos (by omega)]; (try go_simp); (try with_reducible rfl)) | (rw [if_neg (by omega)]; (try go_simp); (try with_reducible rfl)))))
        try simp only [Act.put, List.setIfInBounds_toArray, List.set_cons_zero, List.set_cons_succ]
        refine wpAnyR_takeQ (i := 3) (v := ?_) (some 71) rfl rfl (by kernel_rfl) (by kernel_rfl) (by kernel_rfl) (by kernel_rfl) (fun _ _ _ h => h) (Or.inl ⟨by rfl, ?_⟩) ?_
        rotate_left
        focus (intro wS hSw; (try dsimp only at hSw); go_simp; (try with_reducible rfl); (try (first | (rw [if_pos (by omega)]; (try go_simp); (try with_reducible rfl)) | (rw [if_neg (by omega)]; (try go_simp); (try with_reducible rfl)))))
        try simp only [Act.put, List.setIfInBounds_toArray, List.set_cons_zero, List.set_cons_succ]
        refine wpAnyR_takeQ (i := 6) (v := ?_) (some 74) rfl rfl (by kernel_rfl) (by kernel_rfl) (by kernel_rfl) (by kernel_rfl) (fun _ _ _ h => h) (Or.inl ⟨by rfl, ?_⟩) ?_
        rotate_left
        focus (intro wS hSw; (try dsimp only at hSw); go_simp; (try with_reducible rfl); (try (first | (rw [if_pos (by omega)]; (try go_simp); (try with_reducible rfl)) | (rw [if_neg (by omega)]; (try go_simp); (try with_reducible rfl)))))
        try simp only [Act.put, List.setIfInBounds_toArray, List.set_cons_zero, List.set_cons_succ]
        refine wpAnyR_take (i := 7) (v := ?_) [8, 9, 10] (some 75) rfl rfl (by kernel_rfl) (by kernel_rfl) (by kernel_rfl) (by kernel_rfl) (by kernel_rfl) (by kernel_rfl) (by kernel_rfl) (fun _ _ _ h => h) (Or.inl ⟨by rfl, ?_⟩) hS ?_
        rotate_left
        focus (intro wS hSw; (try dsimp only at hSw); go_simp; (try with_reducible rfl); (try (first | (rw [if_pos (by omega)]; (try go_simp); (try with_reducible rfl)) | (rw [if_neg (by omega)]; (try go_simp); (try with_reducible rfl)))))
        try simp only [Act.put, List.setIfInBounds_toArray, List.set_cons_zero, List.set_cons_succ]
        refine wpAnyR_n1 (i := 1) rfl (by kernel_rfl) ?_
        intro K' hK
        rw [if_pos (by rfl)]
        simp only [List.getElem_toArray, List.getElem_cons_succ, List.getElem_cons_zero]
        go_wp2_with fail
        refine (size_val (w := wj.drew) rfl (by omega) rL sL HSL.out).mono ?_
        rintro e wk ⟨rfl, gk⟩
        go_wp2_with fail
        have hbk := hbj.drew.grew gk
        have r1k := RunsAt.hold (w := wj.drew) r1j gk
        have r2k := RunsAt.hold (w := wj.drew) r2j gk
        have Gk : Grew w wk := Gj.drew.trans gk
        refine hK.out _ _ (.inr (fun _ => ⟨hbk.cell 0, hbk.cell 1⟩)) ?_
        clear hK hS gk
        refine wpAnyR_n1 (i := 4) rfl (by kernel_rfl) ?_
        intro K' hK
        rw [if_pos (by rfl)]
        simp only [List.getElem_toArray, List.getElem_cons_succ, List.getElem_cons_zero]
        go_wp2_with fail
        refine (union_val rfl rfl (by omega) (by omega) r2k r1k U HU.out).mono ?_
        rintro e wl ⟨AV, cV, rfl, rV, gl⟩
        go_wp2_with fail
        have hbl := hbk.grew gl
        have Gl := Gk.trans gl
        refine hK.out _ _ (.inr (fun _ => ⟨hbl.cell 0, hbl.cell 1⟩)) ?_
        clear hK gl
        refine wpAnyR_n1 (i := 5) rfl (by kernel_rfl) ?_
        intro K' hK
        rw [if_pos (by rfl)]
        simp only [List.getElem_toArray, List.getElem_cons_succ, List.getElem_cons_zero]
        go_wp2_with fail
        refine (size_val rfl (by omega) rV sU HSU.out).mono ?_
        rintro e wm ⟨rfl, gm⟩
        go_wp2_with fail
        have hbm := hbl.grew gm
        have Gm := Gl.trans gm
        refine hK.out _ _ (.inr (fun _ => ⟨hbm.cell 0, hbm.cell 1⟩)) ?_
        clear hK gm
        have hsub : IntKind.i64.wrap ((sU : Int) - (d : Int)) = (sL : Int) := by rw [IntKind.wrap_i64]; omega
        have hS := (show (fun w' : World => w'.cell? ⟨g5, 0, none⟩ = some (.int .i64 (x : Int)) ∧ w'.cell? ⟨g5, 1, none⟩ = some (.int .i64 (d : Int))) wm from ⟨hbm.cell 0, hbm.cell 1⟩)
        refine wpAnyR_takeQ (i := 8) (v := ?_) (some 76) rfl rfl (by kernel_rfl) (by kernel_rfl) (by kernel_rfl) (by kernel_rfl) (fun _ _ _ h => h) (Or.inl ⟨by rfl, ?_⟩) ?_
        rotate_left
        focus (intro wS hSw; (try dsimp only at hSw); go_simp; (try with_reducible rfl); (try (first | (rw [if_pos (by omega)]; (try go_simp); (try with_reducible rfl)) | (rw [if_neg (by omega)]; (try go_simp); (try with_reducible rfl)))))
        try simp only [Act.put, List.setIfInBounds_toArray, List.set_cons_zero, List.set_cons_succ]
        try rw [hsub]
        refine wpAnyR_takeQ (i := 9) (v := ?_) (some 77) rfl rfl (by kernel_rfl) (by kernel_rfl) (by kernel_rfl) (by kernel_rfl) (fun _ _ _ h => h) (Or.inl ⟨by rfl, ?_⟩) ?_
        rotate_left
        focus (intro wS hSw; (try dsimp only at hSw); go_simp; (try with_reducible rfl); (try (first | (rw [if_pos (by omega)]; (try go_simp); (try with_reducible rfl)) | (rw [if_neg (by omega)]; (try go_simp); (try with_reducible rfl)))))
        try simp only [Act.put, List.setIfInBounds_toArray, List.set_cons_zero, List.set_cons_succ]
        refine wpAnyR_takeQ (i := 10) (v := ?_) (some 4) rfl rfl (by kernel_rfl) (by kernel_rfl) (by kernel_rfl) (by kernel_rfl) (fun _ _ _ h => h) (Or.inl ⟨by rfl, ?_⟩) ?_
        rotate_left
        focus (intro wS hSw; (try dsimp only at hSw); go_simp; (try with_reducible rfl); (try (first | (rw [if_pos (by omega)]; (try go_simp); (try with_reducible rfl)) | (rw [if_neg (by omega)]; (try go_simp); (try with_reducible rfl)))))
        try simp only [Act.put, List.setIfInBounds_toArray, List.set_cons_zero, List.set_cons_succ]
        refine wpAnyR_done (by kernel_rfl) ?_ _
        go_wp2_with fail
        go_ret
        exact ⟨rfl, Gm⟩
end Go.Proofs.Ytenbcjlikoajdaa
