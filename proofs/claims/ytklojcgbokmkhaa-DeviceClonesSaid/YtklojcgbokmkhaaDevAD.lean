/- Chapter 3: same. -/
import Derived.Test.YtklojcgbokmkhaaDevAC
namespace Go.Proofs.Ytklojcgbokmkhaa
set_option linter.unusedVariables false
set_option linter.unusedSimpArgs false
set_option linter.unusedSectionVars false
open Go.RowKit
open Go.Maps (Keyed)
attribute [local go_sem ↓] Go.wp_at_zero Go.wp_at_succ
section
variable {w0 ws : World} {x : Nat} {D : Dev} {out : Nat → Prop} (h : Live w0 x D out ws) {p : RefP} (hr : RefM ws p D) (hsmall : D.pend.length ≤ 1000000)
include h hr hsmall
set_option maxRecDepth 100000 in
set_option maxHeartbeats 8000000 in
theorem same_any : Calls Try.prog 13 #[.pointer (some ⟨x, 0, none⟩), .agg (rv p D)] ws fun e w' => e = .returned (.bool true) ∧ Grew ws w' := by
  have hal := (Grew.refl ws).alloc (.cells (rv p D) 32)
  have hb := Blk.new ws 32 (rv p D) rfl
  have HL := Lib.hid (h.grew hal)
  have HR := Lib.hid (hr.grew hal)
  have hlim := hr.ok.lim
  have HSE := fun W (hg : Grew (ws.alloc (.cells (rv p D) 32)) W) => Lib.hid (sectors_live (HL.out.grew hg))
  have HFA := fun W (hg : Grew (ws.alloc (.cells (rv p D) 32)) W) => Lib.hid (failed_live (HL.out.grew hg))
  have HRD := fun W (hg : Grew (ws.alloc (.cells (rv p D) 32)) W) (i : Int) => Lib.hid (read_live (HL.out.grew hg) i (readD D i).1 (readD D i).2 rfl)
  have HRR := fun W (hg : Grew (ws.alloc (.cells (rv p D) 32)) W) (i : Int) (hi : okI i) => Lib.hid (rread_any (HR.out.grew hg) i hi (readD D i).1 (readD D i).2 rfl hsmall)
  have HOL := fun W (hg : Grew (ws.alloc (.cells (rv p D) 32)) W) (i : Int) => Lib.hid (old_live (HL.out.grew hg) i)
  have HOR := fun W (hg : Grew (ws.alloc (.cells (rv p D) 32)) W) (i : Int) (hi : okI i) => Lib.hid (rearlier_any (HR.out.grew hg) i hi)
  have HPL := fun W (hg : Grew (ws.alloc (.cells (rv p D) 32)) W) (i : Int) => Lib.hid (pending_live (HL.out.grew hg) i hsmall)
  have HPR := fun W (hg : Grew (ws.alloc (.cells (rv p D) 32)) W) (i : Int) => Lib.hid (rwaiting_any (HR.out.grew hg) i hsmall)
  have HER := fun i => Lib.hid (show ((readD D i).1.toList == (readD D i).1.toList) = true from beq_self_eq_true _)
  have HEE := fun i => Lib.hid (show ((readD D i).2 == (readD D i).2) = true from beq_self_eq_true _)
  have HEW := fun i => Lib.hid (show (waitD D i) ≤ 1000000 from Nat.le_trans (List.length_filter_le _ _) hsmall)
  unfold rv at hal hb HSE HFA HRD HRR HOL HOR HPL HPR ⊢
  clear h hr HL HR
  go_enter Try.func13, Try.ntmps13
  go_upto_region 1 with fail
  obtain ⟨w1, hw1⟩ : ∃ w1, w1 = ws.alloc (.cells #[.slice p.A0 D.st.length p.c0, .slice p.A1 D.st.length p.c1, .slice p.A2 D.pend.length p.c2, .slice p.A3 5 p.c3, .bool D.failed, .int .i64 p.fu, .slice p.A6 p.svl.length p.c6] 32) := ⟨_, rfl⟩
  rw [← hw1] at hal hb HSE HFA HRD HRR HOL HOR HPL HPR ⊢
  clear hw1
  have HAL := Lib.hid hal
  have HB := Lib.hid hb
  have hbl := hb.lt
  have x0 := hb.cell 0
  have x4 := hb.cell 4
  generalize hfd : D.failed = fd at *
  generalize hsl : D.st.length = sl at *
  clear hal hb hfd hsl
  refine wp_region_R [] (fun w' : World => w'.cell? ⟨ws.heap.size, 0, none⟩ = some (.slice p.A0 sl p.c0) ∧ w'.cell? ⟨ws.heap.size, 4, none⟩ = some (.bool fd)) (by kernel_rfl) ?_
  have hS := (show (fun w' : World => w'.cell? ⟨ws.heap.size, 0, none⟩ = some (.slice p.A0 sl p.c0) ∧ w'.cell? ⟨ws.heap.size, 4, none⟩ = some (.bool fd)) w1.drew from ⟨x0, x4⟩)
  have g1 := (Grew.refl w1).drew
  refine wpAnyR_takeQ (i := 0) (v := ?_) (some 11) rfl rfl (by kernel_rfl) (by kernel_rfl) (by kernel_rfl) (by kernel_rfl) (fun _ _ _ h => h) (Or.inl ⟨by rfl, ?_⟩) ?_
  rotate_left
  focus (intro wS hSw; (try dsimp only at hSw); go_simp; (try with_reducible rfl); (try (first | (rw [if_pos (by omega)]; (try go_simp); (try with_reducible rfl)) | (rw [if_neg (by omega)]; (try go_simp); (try with_reducible rfl)))))
  try simp only [Act.put, List.setIfInBounds_toArray, List.set_cons_zero, List.set_cons_succ]
  refine wpAnyR_takeQ (i := 2) (v := ?_) (some 13) rfl rfl (by kernel_rfl) (by kernel_rfl) (by kernel_rfl) (by kernel_rfl) (fun _ _ _ h => h) (Or.inl ⟨by rfl, ?_⟩) ?_
  rotate_left
  focus (intro wS hSw; (try dsimp only at hSw); go_simp; (try with_reducible rfl); (try (first | (rw [if_pos (by omega)]; (try go_simp); (try with_reducible rfl)) | (rw [if_neg (by omega)]; (try go_simp); (try with_reducible rfl)))))
  try simp only [Act.put, List.setIfInBounds_toArray, List.set_cons_zero, List.set_cons_succ]
  refine wpAnyR_take (i := 3) (v := ?_) [4, 5, 6, 7, 8, 9, 10, 11, 12] (some 14) rfl rfl (by kernel_rfl) (by kernel_rfl) (by kernel_rfl) (by kernel_rfl) (by kernel_rfl) (by kernel_rfl) (by kernel_rfl) (fun _ _ _ h => h) (Or.inl ⟨by rfl, ?_⟩) hS ?_
  rotate_left
  focus (intro wS hSw; (try dsimp only at hSw); go_simp; (try with_reducible rfl); (try (first | (rw [if_pos (by omega)]; (try go_simp); (try with_reducible rfl)) | (rw [if_neg (by omega)]; (try go_simp); (try with_reducible rfl)))))
  try simp only [Act.put, List.setIfInBounds_toArray, List.set_cons_zero, List.set_cons_succ]
  refine wpAnyR_take (i := 4) (v := ?_) [5, 6, 7, 8, 9, 10, 11, 12] (some 15) rfl rfl (by kernel_rfl) (by kernel_rfl) (by kernel_rfl) (by kernel_rfl) (by kernel_rfl) (by kernel_rfl) (by kernel_rfl) (fun _ _ _ h => h) (Or.inl ⟨by rfl, ?_⟩) hS ?_
  rotate_left
  focus (intro wS hSw; (try dsimp only at hSw); go_simp; (try with_reducible rfl); (try (first | (rw [if_pos (by omega)]; (try go_simp); (try with_reducible rfl)) | (rw [if_neg (by omega)]; (try go_simp); (try with_reducible rfl)))))
  try simp only [Act.put, List.setIfInBounds_toArray, List.set_cons_zero, List.set_cons_succ]
  refine wpAnyR_n1 (i := 1) rfl (by kernel_rfl) ?_
  intro K' hK
  rw [if_pos (by rfl)]
  simp only [List.getElem_toArray, List.getElem_cons_succ, List.getElem_cons_zero]
  go_wp2_with fail
  refine (HSE _ g1).out.mono ?_
  rintro e w2 ⟨rfl, rfl⟩
  go_wp2_with fail
  refine hK.out _ _ (.inr (fun h => h)) ?_
  clear hK
  refine wpAnyR_takeQ (i := 5) (v := ?_) (some 16) rfl rfl (by kernel_rfl) (by kernel_rfl) (by kernel_rfl) (by kernel_rfl) (fun _ _ _ h => h) (Or.inl ⟨by rfl, ?_⟩) ?_
  rotate_left
  focus (intro wS hSw; (try dsimp only at hSw); go_simp; (try with_reducible rfl); (try (first | (rw [if_pos (by omega)]; (try go_simp); (try with_reducible rfl)) | (rw [if_neg (by omega)]; (try go_simp); (try with_reducible rfl)))))
  try simp only [Act.put, List.setIfInBounds_toArray, List.set_cons_zero, List.set_cons_succ]
  refine wpAnyR_takeQ (i := 6) (v := ?_) (some 17) rfl rfl (by kernel_rfl) (by kernel_rfl) (by kernel_rfl) (by kernel_rfl) (fun _ _ _ h => h) (Or.inl ⟨by rfl, ?_⟩) ?_
  rotate_left
  focus (intro wS hSw; (try dsimp only at hSw); go_simp; (try with_reducible rfl); (try (first | (rw [if_pos (by omega)]; (try go_simp); (try with_reducible rfl)) | (rw [if_neg (by omega)]; (try go_simp); (try with_reducible rfl)))))
  try simp only [Act.put, List.setIfInBounds_toArray, List.set_cons_zero, List.set_cons_succ]
  refine wpAnyR_takeQ (i := 7) (v := ?_) (some 18) rfl rfl (by kernel_rfl) (by kernel_rfl) (by kernel_rfl) (by kernel_rfl) (fun _ _ _ h => h) (Or.inl ⟨by rfl, ?_⟩) ?_
  rotate_left
  focus (intro wS hSw; (try dsimp only at hSw); go_simp; (try with_reducible rfl); (try (first | (rw [if_pos (by omega)]; (try go_simp); (try with_reducible rfl)) | (rw [if_neg (by omega)]; (try go_simp); (try with_reducible rfl)))))
  try simp only [Act.put, List.setIfInBounds_toArray, List.set_cons_zero, List.set_cons_succ]
  refine wpAnyR_takeQ (i := 9) (v := ?_) (some 20) rfl rfl (by kernel_rfl) (by kernel_rfl) (by kernel_rfl) (by kernel_rfl) (fun _ _ _ h => h) (Or.inl ⟨by rfl, ?_⟩) ?_
  rotate_left
  focus (intro wS hSw; (try dsimp only at hSw); go_simp; (try with_reducible rfl); (try (first | (rw [if_pos (by omega)]; (try go_simp); (try with_reducible rfl)) | (rw [if_neg (by omega)]; (try go_simp); (try with_reducible rfl)))))
  try simp only [Act.put, List.setIfInBounds_toArray, List.set_cons_zero, List.set_cons_succ]
  refine wpAnyR_take (i := 10) (v := ?_) [11, 12] (some 21) rfl rfl (by kernel_rfl) (by kernel_rfl) (by kernel_rfl) (by kernel_rfl) (by kernel_rfl) (by kernel_rfl) (by kernel_rfl) (fun _ _ _ h => h) (Or.inl ⟨by rfl, ?_⟩) hS ?_
  rotate_left
  focus (intro wS hSw; (try dsimp only at hSw); go_simp; (try with_reducible rfl); (try (first | (rw [if_pos (by omega)]; (try go_simp); (try with_reducible rfl)) | (rw [if_neg (by omega)]; (try go_simp); (try with_reducible rfl)))))
  try simp only [Act.put, List.setIfInBounds_toArray, List.set_cons_zero, List.set_cons_succ]
  refine wpAnyR_n1 (i := 8) rfl (by kernel_rfl) ?_
  intro K' hK
  rw [if_pos (by rfl)]
  simp only [List.getElem_toArray, List.getElem_cons_succ, List.getElem_cons_zero]
  go_wp2_with fail
  refine (HFA _ g1).out.mono ?_
  rintro e w2 ⟨rfl, rfl⟩
  go_wp2_with fail
  refine hK.out _ _ (.inr (fun h => h)) ?_
  clear hK
  refine wpAnyR_takeQ (i := 11) (v := ?_) (some 22) rfl rfl (by kernel_rfl) (by kernel_rfl) (by kernel_rfl) (by kernel_rfl) (fun _ _ _ h => h) (Or.inl ⟨by rfl, ?_⟩) ?_
  rotate_left
  focus (intro wS hSw; (try dsimp only at hSw); go_simp; (try with_reducible rfl); (try (first | (rw [if_pos (by omega)]; (try go_simp); (try with_reducible rfl)) | (rw [if_neg (by omega)]; (try go_simp); (try with_reducible rfl)))))
  try simp only [Act.put, List.setIfInBounds_toArray, List.set_cons_zero, List.set_cons_succ]
  refine wpAnyR_takeQ (i := 12) (v := ?_) (some 23) rfl rfl (by kernel_rfl) (by kernel_rfl) (by kernel_rfl) (by kernel_rfl) (fun _ _ _ h => h) (Or.inl ⟨by rfl, ?_⟩) ?_
  rotate_left
  focus (intro wS hSw; (try dsimp only at hSw); go_simp; (try with_reducible rfl); (try (first | (rw [if_pos (by omega)]; (try go_simp); (try with_reducible rfl)) | (rw [if_neg (by omega)]; (try go_simp); (try with_reducible rfl)))))
  try simp only [Act.put, List.setIfInBounds_toArray, List.set_cons_zero, List.set_cons_succ]
  refine wpAnyR_done (by kernel_rfl) ?_ _
  clear hS x0 x4
  have hGd : Grew w1 w1.drew := g1
  go_wp2_with fail
  go_loopg [5] (sl + 2) (fun gk iv wr => ∃ j : Nat, j ≤ sl + 2 ∧ gk = sl + 2 - j ∧ iv = .int .i64 ((j : Int) - 1) ∧ Grew w1 wr)
  case atStart => exact ⟨0, by omega, rfl, rfl, hGd⟩
  case round =>
    clear hGd g1
    obtain ⟨j, hj, hgk, rfl, hg⟩ := hrel
    have HGK := Lib.hid hgk
    have HG := Lib.hid hg
    have hbr := HB.out.grew hg
    have hblr := hbr.lt
    have x0 := hbr.cell 0
    clear hgk
    by_cases hlt : j < sl + 2
    · obtain ⟨i, hi⟩ : ∃ i : Int, (j : Int) - 1 = i := ⟨_, rfl⟩
      rw [hi]
      have hi1 : -1 ≤ i := by omega
      have hi2 : i ≤ (sl : Int) := by omega
      have hiI : okI i := by unfold okI; omega
      have HI := Lib.hid hi
      have H1 := (HRD wr hg i).out
      have H2 := (HRR wr hg i hiI).out
      generalize readD D i = R at H1 H2
      obtain ⟨s, er⟩ := R
      simp only at H1 H2
      have H1' := Lib.hid H1
      have H2' := Lib.hid H2
      have hss : (s.toList == s.toList) = true := beq_self_eq_true _
      have x1 := hbr.cell 1
      have x2 := hbr.cell 2
      have x3 := hbr.cell 3
      have x4 := hbr.cell 4
      have x5 := hbr.cell 5
      have x6 := hbr.cell 6
      have HBR := Lib.hid hbr
      clear H1 H2 hi hbr hg
      go_wp2_with fail
      refine H1'.out.mono ?_
      rintro e w2 ⟨rfl, rfl⟩
      go_wp2_with fail
      refine H2'.out.mono ?_
      rintro e w2 ⟨rfl, g2⟩
      have hb2 := HBR.out.grew g2
      have HG2 := Lib.hid (HG.out.trans g2)
      clear x0 x1 x2 x3 x4 x5 x6
      go_wp2_with fail
      have hS := (show (fun w' : World => w'.cell? ⟨ws.heap.size, 0, none⟩ = some (.slice p.A0 sl p.c0) ∧ w'.cell? ⟨ws.heap.size, 1, none⟩ = some (.slice p.A1 sl p.c1) ∧ w'.cell? ⟨ws.heap.size, 2, none⟩ = some (.slice p.A2 D.pend.length p.c2) ∧ w'.cell? ⟨ws.heap.size, 3, none⟩ = some (.slice p.A3 5 p.c3) ∧ w'.cell? ⟨ws.heap.size, 4, none⟩ = some (.bool fd) ∧ w'.cell? ⟨ws.heap.size, 5, none⟩ = some (.int .i64 p.fu) ∧ w'.cell? ⟨ws.heap.size, 6, none⟩ = some (.slice p.A6 p.svl.length p.c6)) w2.drew from ⟨hb2.cell 0, hb2.cell 1, hb2.cell 2, hb2.cell 3, hb2.cell 4, hb2.cell 5, hb2.cell 6⟩)
      have HB2 := Lib.hid hb2
      have hgd : Grew w1 w2.drew := HG2.out.drew
      have H3 := Lib.hid (HOL w2.drew hgd i).out
      have H4 := Lib.hid (HOR w2.drew hgd i hiI).out
      generalize earlierD D i = en at H3 H4
      clear hb2 g2
      refine wp_region_R [] (fun w' : World => w'.cell? ⟨ws.heap.size, 0, none⟩ = some (.slice p.A0 sl p.c0) ∧ w'.cell? ⟨ws.heap.size, 1, none⟩ = some (.slice p.A1 sl p.c1) ∧ w'.cell? ⟨ws.heap.size, 2, none⟩ = some (.slice p.A2 D.pend.length p.c2) ∧ w'.cell? ⟨ws.heap.size, 3, none⟩ = some (.slice p.A3 5 p.c3) ∧ w'.cell? ⟨ws.heap.size, 4, none⟩ = some (.bool fd) ∧ w'.cell? ⟨ws.heap.size, 5, none⟩ = some (.int .i64 p.fu) ∧ w'.cell? ⟨ws.heap.size, 6, none⟩ = some (.slice p.A6 p.svl.length p.c6)) (by kernel_rfl) ?_
      refine wpAnyR_takeQ (i := 0) (v := ?_) (some 43) rfl rfl (by kernel_rfl) (by kernel_rfl) (by kernel_rfl) (by kernel_rfl) (fun _ _ _ h => h) (Or.inl ⟨by rfl, ?_⟩) ?_
      rotate_left
      focus (intro wS hSw; (try dsimp only at hSw); go_simp; (try with_reducible rfl); (try (first | (rw [if_pos (by omega)]; (try go_simp); (try with_reducible rfl)) | (rw [if_neg (by omega)]; (try go_simp); (try with_reducible rfl)))))
      try simp only [Act.put, List.setIfInBounds_toArray, List.set_cons_zero, List.set_cons_succ]
      refine wpAnyR_takeQ (i := 1) (v := ?_) (some 44) rfl rfl (by kernel_rfl) (by kernel_rfl) (by kernel_rfl) (by kernel_rfl) (fun _ _ _ h => h) (Or.inl ⟨by rfl, ?_⟩) ?_
      rotate_left
      focus (intro wS hSw; (try dsimp only at hSw); go_simp; (try with_reducible rfl); (try (first | (rw [if_pos (by omega)]; (try go_simp); (try with_reducible rfl)) | (rw [if_neg (by omega)]; (try go_simp); (try with_reducible rfl)))))
      try simp only [Act.put, List.setIfInBounds_toArray, List.set_cons_zero, List.set_cons_succ]
      refine wpAnyR_takeQ (i := 2) (v := ?_) (some 45) rfl rfl (by kernel_rfl) (by kernel_rfl) (by kernel_rfl) (by kernel_rfl) (fun _ _ _ h => h) (Or.inl ⟨by rfl, ?_⟩) ?_
      rotate_left
      focus (intro wS hSw; (try dsimp only at hSw); go_simp; (try with_reducible rfl); (try (first | (rw [if_pos (by omega)]; (try go_simp); (try with_reducible rfl)) | (rw [if_neg (by omega)]; (try go_simp); (try with_reducible rfl)))))
      try simp only [Act.put, List.setIfInBounds_toArray, List.set_cons_zero, List.set_cons_succ]
      refine wpAnyR_takeQ (i := 3) (v := ?_) (some 46) rfl rfl (by kernel_rfl) (by kernel_rfl) (by kernel_rfl) (by kernel_rfl) (fun _ _ _ h => h) (Or.inl ⟨by rfl, ?_⟩) ?_
      rotate_left
      focus (intro wS hSw; (try dsimp only at hSw); go_simp; (try with_reducible rfl); (try (first | (rw [if_pos (by omega)]; (try go_simp); (try with_reducible rfl)) | (rw [if_neg (by omega)]; (try go_simp); (try with_reducible rfl)))))
      try simp only [Act.put, List.setIfInBounds_toArray, List.set_cons_zero, List.set_cons_succ]
      refine wpAnyR_takeQ (i := 4) (v := ?_) (some 47) rfl rfl (by kernel_rfl) (by kernel_rfl) (by kernel_rfl) (by kernel_rfl) (fun _ _ _ h => h) (Or.inl ⟨by rfl, ?_⟩) ?_
      rotate_left
      focus (intro wS hSw; (try dsimp only at hSw); go_simp; (try with_reducible rfl); (try (first | (rw [if_pos (by omega)]; (try go_simp); (try with_reducible rfl)) | (rw [if_neg (by omega)]; (try go_simp); (try with_reducible rfl)))))
      try simp only [Act.put, List.setIfInBounds_toArray, List.set_cons_zero, List.set_cons_succ]
      refine wpAnyR_takeQ (i := 5) (v := ?_) (some 48) rfl rfl (by kernel_rfl) (by kernel_rfl) (by kernel_rfl) (by kernel_rfl) (fun _ _ _ h => h) (Or.inl ⟨by rfl, ?_⟩) ?_
      rotate_left
      focus (intro wS hSw; (try dsimp only at hSw); go_simp; (try with_reducible rfl); (try (first | (rw [if_pos (by omega)]; (try go_simp); (try with_reducible rfl)) | (rw [if_neg (by omega)]; (try go_simp); (try with_reducible rfl)))))
      try simp only [Act.put, List.setIfInBounds_toArray, List.set_cons_zero, List.set_cons_succ]
      refine wpAnyR_takeQ (i := 6) (v := ?_) (some 49) rfl rfl (by kernel_rfl) (by kernel_rfl) (by kernel_rfl) (by kernel_rfl) (fun _ _ _ h => h) (Or.inl ⟨by rfl, ?_⟩) ?_
      rotate_left
      focus (intro wS hSw; (try dsimp only at hSw); go_simp; (try with_reducible rfl); (try (first | (rw [if_pos (by omega)]; (try go_simp); (try with_reducible rfl)) | (rw [if_neg (by omega)]; (try go_simp); (try with_reducible rfl)))))
      try simp only [Act.put, List.setIfInBounds_toArray, List.set_cons_zero, List.set_cons_succ]
      refine wpAnyR_takeQ (i := 7) (v := ?_) (some 50) rfl rfl (by kernel_rfl) (by kernel_rfl) (by kernel_rfl) (by kernel_rfl) (fun _ _ _ h => h) (Or.inl ⟨by rfl, ?_⟩) ?_
      rotate_left
      focus (intro wS hSw; (try dsimp only at hSw); go_simp; (try with_reducible rfl); (try (first | (rw [if_pos (by omega)]; (try go_simp); (try with_reducible rfl)) | (rw [if_neg (by omega)]; (try go_simp); (try with_reducible rfl)))))
      try simp only [Act.put, List.setIfInBounds_toArray, List.set_cons_zero, List.set_cons_succ]
      refine wpAnyR_takeQ (i := 8) (v := ?_) (some 51) rfl rfl (by kernel_rfl) (by kernel_rfl) (by kernel_rfl) (by kernel_rfl) (fun _ _ _ h => h) (Or.inl ⟨by rfl, ?_⟩) ?_
      rotate_left
      focus (intro wS hSw; (try dsimp only at hSw); go_simp; (try with_reducible rfl); (try (first | (rw [if_pos (by omega)]; (try go_simp); (try with_reducible rfl)) | (rw [if_neg (by omega)]; (try go_simp); (try with_reducible rfl)))))
      try simp only [Act.put, List.setIfInBounds_toArray, List.set_cons_zero, List.set_cons_succ]
      refine wpAnyR_takeQ (i := 9) (v := ?_) (some 52) rfl rfl (by kernel_rfl) (by kernel_rfl) (by kernel_rfl) (by kernel_rfl) (fun _ _ _ h => h) (Or.inl ⟨by rfl, ?_⟩) ?_
      rotate_left
      focus (intro wS hSw; (try dsimp only at hSw); go_simp; (try with_reducible rfl); (try (first | (rw [if_pos (by omega)]; (try go_simp); (try with_reducible rfl)) | (rw [if_neg (by omega)]; (try go_simp); (try with_reducible rfl)))))
      try simp only [Act.put, List.setIfInBounds_toArray, List.set_cons_zero, List.set_cons_succ]
      refine wpAnyR_takeQ (i := 10) (v := ?_) (some 53) rfl rfl (by kernel_rfl) (by kernel_rfl) (by kernel_rfl) (by kernel_rfl) (fun _ _ _ h => h) (Or.inl ⟨by rfl, ?_⟩) ?_
      rotate_left
      focus (intro wS hSw; (try dsimp only at hSw); go_simp; (try with_reducible rfl); (try (first | (rw [if_pos (by omega)]; (try go_simp); (try with_reducible rfl)) | (rw [if_neg (by omega)]; (try go_simp); (try with_reducible rfl)))))
      try simp only [Act.put, List.setIfInBounds_toArray, List.set_cons_zero, List.set_cons_succ]
      refine wpAnyR_take (i := 12) (v := ?_) [14, 15, 16] (some 55) rfl rfl (by kernel_rfl) (by kernel_rfl) (by kernel_rfl) (by kernel_rfl) (by kernel_rfl) (by kernel_rfl) (by kernel_rfl) (fun _ _ _ h => h) (Or.inl ⟨by rfl, ?_⟩) hS ?_
      rotate_left
      focus (intro wS hSw; (try dsimp only at hSw); go_simp; (try with_reducible rfl); (try (first | (rw [if_pos (by omega)]; (try go_simp); (try with_reducible rfl)) | (rw [if_neg (by omega)]; (try go_simp); (try with_reducible rfl)))))
      try simp only [Act.put, List.setIfInBounds_toArray, List.set_cons_zero, List.set_cons_succ]
      refine wpAnyR_takeQ (i := 13) (v := ?_) (some 56) rfl rfl (by kernel_rfl) (by kernel_rfl) (by kernel_rfl) (by kernel_rfl) (fun _ _ _ h => h) (Or.inl ⟨by rfl, ?_⟩) ?_
      rotate_left
      focus (intro wS hSw; (try dsimp only at hSw); go_simp; (try with_reducible rfl); (try (first | (rw [if_pos (by omega)]; (try go_simp); (try with_reducible rfl)) | (rw [if_neg (by omega)]; (try go_simp); (try with_reducible rfl)))))
      try simp only [Act.put, List.setIfInBounds_toArray, List.set_cons_zero, List.set_cons_succ]
      refine wpAnyR_n1 (i := 11) rfl (by kernel_rfl) ?_
      intro K' hK
      rw [if_pos (by rfl)]
      simp only [List.getElem_toArray, List.getElem_cons_succ, List.getElem_cons_zero]
      go_wp2_with fail
      refine H3.out.mono ?_
      rintro e w3 ⟨rfl, rfl⟩
      go_wp2_with fail
      refine hK.out _ _ (.inr (fun h => h)) ?_
      clear hK
      refine wpAnyR_n1 (i := 14) rfl (by kernel_rfl) ?_
      intro K' hK
      rw [if_pos (by rfl)]
      simp only [List.getElem_toArray, List.getElem_cons_succ, List.getElem_cons_zero]
      go_wp2_with fail
      refine H4.out.mono ?_
      rintro e w3 ⟨rfl, g3⟩
      go_wp2_with fail
      have hb3 := HB2.out.drew.grew g3
      have HG3 := Lib.hid (hgd.trans g3)
      refine hK.out _ _ (.inr (fun _ => ⟨hb3.cell 0, hb3.cell 1, hb3.cell 2, hb3.cell 3, hb3.cell 4, hb3.cell 5, hb3.cell 6⟩)) ?_
      clear hK hS
      refine wpAnyR_takeQ (i := 15) (v := ?_) (some 58) rfl rfl (by kernel_rfl) (by kernel_rfl) (by kernel_rfl) (by kernel_rfl) (fun _ _ _ h => h) (Or.inl ⟨by rfl, ?_⟩) ?_
      rotate_left
      focus (intro wS hSw; (try dsimp only at hSw); go_simp; (try with_reducible rfl); (try (first | (rw [if_pos (by omega)]; (try go_simp); (try with_reducible rfl)) | (rw [if_neg (by omega)]; (try go_simp); (try with_reducible rfl)))))
      try simp only [Act.put, List.setIfInBounds_toArray, List.set_cons_zero, List.set_cons_succ]
      refine wpAnyR_takeQ (i := 16) (v := ?_) (some 59) rfl rfl (by kernel_rfl) (by kernel_rfl) (by kernel_rfl) (by kernel_rfl) (fun _ _ _ h => h) (Or.inl ⟨by rfl, ?_⟩) ?_
      rotate_left
      focus (intro wS hSw; (try dsimp only at hSw); go_simp; (try with_reducible rfl); (try (first | (rw [if_pos (by omega)]; (try go_simp); (try with_reducible rfl)) | (rw [if_neg (by omega)]; (try go_simp); (try with_reducible rfl)))))
      try simp only [Act.put, List.setIfInBounds_toArray, List.set_cons_zero, List.set_cons_succ]
      refine wpAnyR_done (by kernel_rfl) ?_ _
      clear hb3 g3 hgd
      go_wp2_with fail
      go_roundg (sl + 2 - (j + 1))
      case measure => rw [HGK.out]; omega
      case rel => exact ⟨j + 1, by omega, rfl, by rw [← HI.out]; go_num, HG3.out⟩
    · obtain rfl : j = sl + 2 := by omega
      have hi9 : ((sl + 2 : Nat) : Int) - 1 = (sl : Int) + 1 := by omega
      rw [hi9]
      have hn9 : ¬ (sl : Int) + 1 ≤ (sl : Int) := by omega
      clear hi9 hbr
      go_wp2_with fail
      go_loopg [10] 6 (fun gk iv wr => ∃ j : Nat, j ≤ 6 ∧ gk = 6 - j ∧ iv = .int .i64 (j : Int) ∧ Grew w1 wr)
      case atStart => exact ⟨0, by omega, rfl, rfl, hg⟩
      case round =>
        clear x0 hg hblr hj
        obtain ⟨j, hj, hgk, rfl, hg⟩ := hrel
        have HGK := Lib.hid hgk
        have HG := Lib.hid hg
        have hbr := HB.out.grew hg
        have hblr := hbr.lt
        clear hgk
        by_cases hlt : j < 6
        · have H1 := Lib.hid (HPL wr.drew hg.drew (j : Int)).out
          have H2 := fun W (hw : Grew w1 W) => Lib.hid (HPR W hw (j : Int)).out
          generalize waitD D (j : Int) = wn at H1 H2
          have HBR := Lib.hid hbr
          have hgd : Grew w1 wr.drew := hg.drew
          have hS := (show (fun w' : World => w'.cell? ⟨ws.heap.size, 0, none⟩ = some (.slice p.A0 sl p.c0) ∧ w'.cell? ⟨ws.heap.size, 1, none⟩ = some (.slice p.A1 sl p.c1) ∧ w'.cell? ⟨ws.heap.size, 2, none⟩ = some (.slice p.A2 D.pend.length p.c2) ∧ w'.cell? ⟨ws.heap.size, 3, none⟩ = some (.slice p.A3 5 p.c3) ∧ w'.cell? ⟨ws.heap.size, 4, none⟩ = some (.bool fd) ∧ w'.cell? ⟨ws.heap.size, 5, none⟩ = some (.int .i64 p.fu) ∧ w'.cell? ⟨ws.heap.size, 6, none⟩ = some (.slice p.A6 p.svl.length p.c6)) wr.drew from ⟨hbr.cell 0, hbr.cell 1, hbr.cell 2, hbr.cell 3, hbr.cell 4, hbr.cell 5, hbr.cell 6⟩)
          have hj5 : (j : Int) ≤ 5 := by omega
          clear hbr hg
          go_wp2_with fail
          refine wp_region_R [] (fun w' : World => w'.cell? ⟨ws.heap.size, 0, none⟩ = some (.slice p.A0 sl p.c0) ∧ w'.cell? ⟨ws.heap.size, 1, none⟩ = some (.slice p.A1 sl p.c1) ∧ w'.cell? ⟨ws.heap.size, 2, none⟩ = some (.slice p.A2 D.pend.length p.c2) ∧ w'.cell? ⟨ws.heap.size, 3, none⟩ = some (.slice p.A3 5 p.c3) ∧ w'.cell? ⟨ws.heap.size, 4, none⟩ = some (.bool fd) ∧ w'.cell? ⟨ws.heap.size, 5, none⟩ = some (.int .i64 p.fu) ∧ w'.cell? ⟨ws.heap.size, 6, none⟩ = some (.slice p.A6 p.svl.length p.c6)) (by kernel_rfl) ?_
          refine wpAnyR_takeQ (i := 0) (v := ?_) (some 64) rfl rfl (by kernel_rfl) (by kernel_rfl) (by kernel_rfl) (by kernel_rfl) (fun _ _ _ h => h) (Or.inl ⟨by rfl, ?_⟩) ?_
          rotate_left
          focus (intro wS hSw; (try dsimp only at hSw); go_simp; (try with_reducible rfl); (try (first | (rw [if_pos (by omega)]; (try go_simp); (try with_reducible rfl)) | (rw [if_neg (by omega)]; (try go_simp); (try with_reducible rfl)))))
          try simp only [Act.put, List.setIfInBounds_toArray, List.set_cons_zero, List.set_cons_succ]
          refine wpAnyR_takeQ (i := 1) (v := ?_) (some 65) rfl rfl (by kernel_rfl) (by kernel_rfl) (by kernel_rfl) (by kernel_rfl) (fun _ _ _ h => h) (Or.inl ⟨by rfl, ?_⟩) ?_
          rotate_left
          focus (intro wS hSw; (try dsimp only at hSw); go_simp; (try with_reducible rfl); (try (first | (rw [if_pos (by omega)]; (try go_simp); (try with_reducible rfl)) | (rw [if_neg (by omega)]; (try go_simp); (try with_reducible rfl)))))
          try simp only [Act.put, List.setIfInBounds_toArray, List.set_cons_zero, List.set_cons_succ]
          refine wpAnyR_take (i := 3) (v := ?_) [5, 6] (some 67) rfl rfl (by kernel_rfl) (by kernel_rfl) (by kernel_rfl) (by kernel_rfl) (by kernel_rfl) (by kernel_rfl) (by kernel_rfl) (fun _ _ _ h => h) (Or.inl ⟨by rfl, ?_⟩) hS ?_
          rotate_left
          focus (intro wS hSw; (try dsimp only at hSw); go_simp; (try with_reducible rfl); (try (first | (rw [if_pos (by omega)]; (try go_simp); (try with_reducible rfl)) | (rw [if_neg (by omega)]; (try go_simp); (try with_reducible rfl)))))
          try simp only [Act.put, List.setIfInBounds_toArray, List.set_cons_zero, List.set_cons_succ]
          refine wpAnyR_takeQ (i := 4) (v := ?_) (some 68) rfl rfl (by kernel_rfl) (by kernel_rfl) (by kernel_rfl) (by kernel_rfl) (fun _ _ _ h => h) (Or.inl ⟨by rfl, ?_⟩) ?_
          rotate_left
          focus (intro wS hSw; (try dsimp only at hSw); go_simp; (try with_reducible rfl); (try (first | (rw [if_pos (by omega)]; (try go_simp); (try with_reducible rfl)) | (rw [if_neg (by omega)]; (try go_simp); (try with_reducible rfl)))))
          try simp only [Act.put, List.setIfInBounds_toArray, List.set_cons_zero, List.set_cons_succ]
          refine wpAnyR_n1 (i := 2) rfl (by kernel_rfl) ?_
          intro K' hK
          rw [if_pos (by rfl)]
          simp only [List.getElem_toArray, List.getElem_cons_succ, List.getElem_cons_zero]
          go_wp2_with fail
          refine H1.out.mono ?_
          rintro e w2 ⟨rfl, g2⟩
          go_wp2_with fail
          have hb2 := HBR.out.drew.grew g2
          have hS2 := (show (fun w' : World => w'.cell? ⟨ws.heap.size, 0, none⟩ = some (.slice p.A0 sl p.c0) ∧ w'.cell? ⟨ws.heap.size, 1, none⟩ = some (.slice p.A1 sl p.c1) ∧ w'.cell? ⟨ws.heap.size, 2, none⟩ = some (.slice p.A2 D.pend.length p.c2) ∧ w'.cell? ⟨ws.heap.size, 3, none⟩ = some (.slice p.A3 5 p.c3) ∧ w'.cell? ⟨ws.heap.size, 4, none⟩ = some (.bool fd) ∧ w'.cell? ⟨ws.heap.size, 5, none⟩ = some (.int .i64 p.fu) ∧ w'.cell? ⟨ws.heap.size, 6, none⟩ = some (.slice p.A6 p.svl.length p.c6)) w2 from ⟨hb2.cell 0, hb2.cell 1, hb2.cell 2, hb2.cell 3, hb2.cell 4, hb2.cell 5, hb2.cell 6⟩)
          refine hK.out _ _ (.inr (fun _ => hS2)) ?_
          have hg2 := hgd.trans g2
          clear hK hS g2 hgd
          have H3 := Lib.hid (H2 w2 hg2).out
          refine wpAnyR_n1 (i := 5) rfl (by kernel_rfl) ?_
          intro K' hK
          rw [if_pos (by rfl)]
          simp only [List.getElem_toArray, List.getElem_cons_succ, List.getElem_cons_zero]
          go_wp2_with fail
          refine H3.out.mono ?_
          rintro e w3 ⟨rfl, g3⟩
          go_wp2_with fail
          have hb3 := hb2.grew g3
          have HG3 := Lib.hid (hg2.trans g3)
          have hS := (show (fun w' : World => w'.cell? ⟨ws.heap.size, 0, none⟩ = some (.slice p.A0 sl p.c0) ∧ w'.cell? ⟨ws.heap.size, 1, none⟩ = some (.slice p.A1 sl p.c1) ∧ w'.cell? ⟨ws.heap.size, 2, none⟩ = some (.slice p.A2 D.pend.length p.c2) ∧ w'.cell? ⟨ws.heap.size, 3, none⟩ = some (.slice p.A3 5 p.c3) ∧ w'.cell? ⟨ws.heap.size, 4, none⟩ = some (.bool fd) ∧ w'.cell? ⟨ws.heap.size, 5, none⟩ = some (.int .i64 p.fu) ∧ w'.cell? ⟨ws.heap.size, 6, none⟩ = some (.slice p.A6 p.svl.length p.c6)) w3 from ⟨hb3.cell 0, hb3.cell 1, hb3.cell 2, hb3.cell 3, hb3.cell 4, hb3.cell 5, hb3.cell 6⟩)
          refine hK.out _ _ (.inr (fun _ => hS)) ?_
          clear hK hS2
          refine wpAnyR_takeQ (i := 6) (v := ?_) (some 70) rfl rfl (by kernel_rfl) (by kernel_rfl) (by kernel_rfl) (by kernel_rfl) (fun _ _ _ h => h) (Or.inl ⟨by rfl, ?_⟩) ?_
          rotate_left
          focus (intro wS hSw; (try dsimp only at hSw); go_simp; (try with_reducible rfl); (try (first | (rw [if_pos (by omega)]; (try go_simp); (try with_reducible rfl)) | (rw [if_neg (by omega)]; (try go_simp); (try with_reducible rfl)))))
          try simp only [Act.put, List.setIfInBounds_toArray, List.set_cons_zero, List.set_cons_succ]
          refine wpAnyR_done (by kernel_rfl) ?_ _
          clear hb3 g3 hg2 hb2 hS
          go_wp2_with fail
          go_roundg (6 - (j + 1))
          case measure => rw [HGK.out]; omega
          case rel => exact ⟨j + 1, by omega, rfl, by go_num, HG3.out⟩
        · obtain rfl : j = 6 := by omega
          go_wp2_with fail
          go_ret
          exact ⟨rfl, HAL.out.trans hg⟩
end
end Go.Proofs.Ytklojcgbokmkhaa
