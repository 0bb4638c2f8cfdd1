/- Chapter 3: the reference's device by value: Earlier, Waiting, writer, fenced, Repair. -/
import Derived.Test.YtklojcgbokmkhaaDevQ
namespace Go.Proofs.Ytklojcgbokmkhaa
set_option linter.unusedVariables false
set_option linter.unusedSimpArgs false
set_option linter.unusedSectionVars false
open Go.RowKit
open Go.Maps (Keyed)
attribute [local go_sem ↓] Go.wp_at_zero Go.wp_at_succ
theorem info_rdev : (Try.prog.info? 32).map (·.size) = some 7 := by kernel_rfl
section
variable {w : World} {p : RefP} {D : Dev} (h : RefM w p D)
include h
set_option maxRecDepth 100000 in
set_option maxHeartbeats 4000000 in
theorem rearlier_any (i : Int) (hi : okI i) : Calls Try.prog 32 #[.agg (rv p D), .int .i64 i] w fun e w' => e = .returned (.int .i64 (earlierD D i : Int)) ∧ Grew w w' := by
  have hG0 := (Grew.refl w).alloc (.cells (rv p D) 32)
  have hb := Blk.new w 32 (rv p D) rfl
  have HT := Lib.hid (rthere_any (h.grew hG0) i hi)
  have x0 := hb.cell 0
  have x1 := hb.cell 1
  have x2 := hb.cell 2
  have x3 := hb.cell 3
  have x4 := hb.cell 4
  have x5 := hb.cell 5
  have x6 := hb.cell 6
  have hxl := hb.lt
  cases hb' : thereD D i with
  | false =>
    rw [hb'] at HT
    have HE := Lib.hid (show earlierD D i = 0 from by unfold earlierD; rw [hb']; rfl)
    unfold rv at hb HT hG0 x0 x1 x2 x3 x4 x5 x6 hxl ⊢
    clear h hb' hb
    go_enter Try.func32, Try.ntmps32
    go_wp2_with fail
    refine HT.out.mono ?_
    rintro e w1 ⟨rfl, g1⟩
    have hG := hG0.trans g1
    go_wp2_with fail
    go_ret
    exact ⟨ret_int (by rw [HE.out]; rfl), hG⟩
  | true =>
    rw [hb'] at HT
    have h0 := of_decide_eq_true hb'
    obtain ⟨k, rfl⟩ : ∃ k : Nat, i = (k : Int) := ⟨i.toNat, by omega⟩
    have HE := Lib.hid (show earlierD D (k : Int) = (D.olds k).length from by unfold earlierD; rw [hb']; rfl)
    have hkl : k < D.st.length := by omega
    obtain ⟨A, c, b, off, _, hcap, hl, hA1, hbb, y0⟩ := h.old_at hkl
    have HB := Lib.hid hb
    have Y0 := Lib.hid y0
    have hol := olds_len h.ok k
    have hc1 := h.cap1
    unfold capOk at hcap hc1
    have hlim := h.ok.lim
    unfold rv at HB HT hG0 x0 x1 x2 x3 x4 x5 x6 hxl ⊢
    rw [hA1] at HB HT hG0 x0 x1 x2 x3 x4 x5 x6 hxl ⊢
    clear h hb' hb hl y0
    go_enter Try.func32, Try.ntmps32
    go_wp2_with fail
    refine HT.out.mono ?_
    rintro e w1 ⟨rfl, g1⟩
    have hG := hG0.trans g1
    have hB1 := HB.out.grew g1
    have z1 := hB1.cell 1
    have zl := hB1.lt
    have y1 := (hG.cellEq _ _ hbb).trans Y0.out
    have hb1 : b < w1.heap.size := by have := hG.size; omega
    clear x0 x1 x2 x3 x4 x5 x6 hxl
    go_wp2_with fail
    go_ret
    exact ⟨ret_int (by rw [HE.out]), hG⟩
set_option maxRecDepth 100000 in
set_option maxHeartbeats 4000000 in
theorem rwaiting_any (s : Int) (hsmall : D.pend.length ≤ 1000000) : Calls Try.prog 33 #[.agg (rv p D), .int .i64 s] w fun e w' => e = .returned (.int .i64 (waitD D s : Int)) ∧ Grew w w' := by
  have hG0 := (Grew.refl w).alloc (.cells (rv p D) 32)
  have hb := Blk.new w 32 (rv p D) rfl
  have HL := Lib.hid (h.pend.on hG0)
  have HW := Lib.hid (show waitD D s = (D.pend.filter (ofSys s)).length from rfl)
  have hc2 := h.cap2
  unfold capOk at hc2
  unfold rv at hb HL hG0 ⊢
  generalize waitD D s = n at *
  generalize hP : D.pend = P at *
  have x2 := hb.cell 2
  have hxl := hb.lt
  clear h hb hP
  go_enter Try.func33, Try.ntmps33
  go_wp2_with fail
  obtain ⟨w1, hw1⟩ : ∃ w1, w1 = w.alloc (.cells #[.slice p.A0 D.st.length p.c0, .slice p.A1 D.st.length p.c1, .slice p.A2 P.length p.c2, .slice p.A3 5 p.c3, .bool D.failed, .int .i64 p.fu, .slice p.A6 p.svl.length p.c6] 32) := ⟨_, rfl⟩
  rw [← hw1] at HL hG0 x2 hxl ⊢
  clear hw1
  go_loopg [5, 6] P.length (fun gk nv iv wr => w1 = wr ∧ ∃ j : Nat, j ≤ P.length ∧ gk = P.length - j ∧ iv = .int .i64 (j : Int) ∧ nv = .int .i64 (((P.take j).filter (ofSys s)).length : Int))
  case atStart => exact ⟨rfl, 0, Nat.zero_le _, rfl, rfl, rfl⟩
  case round =>
    obtain ⟨rfl, j, hj, hgk, rfl, rfl⟩ := hrel
    have HGK := Lib.hid hgk
    clear hgk
    by_cases hlt : j < P.length
    · obtain ⟨b, off, hA2, hbb, z0, z1, z2⟩ := wr_at HL.out hlt
      rw [hA2] at x2
      have HSN := Lib.hid (show ((P.take (j + 1)).filter (ofSys s)).length = ((P.take j).filter (ofSys s)).length + if ofSys s P[j] then 1 else 0 from by
        rw [List.take_succ_eq_append_getElem hlt, List.filter_append, List.length_append, List.filter_cons]
        cases ofSys s P[j] <;> rfl)
      have hcl : ((P.take j).filter (ofSys s)).length ≤ j := Nat.le_trans (List.length_filter_le _ _) (by rw [List.length_take]; omega)
      clear z1 z2
      generalize P[j] = r at *
      generalize ((P.take j).filter (ofSys s)).length = cnt at *
      by_cases hs : r.sys = s
      · have hsb : (r.sys == s) = true := by rw [hs]; exact beq_self_eq_true _
        have HO := Lib.hid (show ofSys s r = true from decide_eq_true hs)
        clear hs
        go_wp2_with fail
        go_roundg (P.length - (j + 1))
        case measure => rw [HGK.out]; omega
        case rel => exact ⟨rfl, j + 1, by omega, by omega, by go_num, by rw [HSN.out, HO.out]; go_num⟩
      · have hsb : (r.sys == s) = false := beq_eq_false_iff_ne.2 hs
        have HO := Lib.hid (show ofSys s r = false from decide_eq_false hs)
        clear hs
        go_wp2_with fail
        go_roundg (P.length - (j + 1))
        case measure => rw [HGK.out]; omega
        case rel => exact ⟨rfl, j + 1, by omega, by omega, by go_num, by rw [HSN.out, HO.out]; rfl⟩
    · obtain rfl : j = P.length := by omega
      have HE := Lib.hid (show ((P.take P.length).filter (ofSys s)).length = n from by rw [List.take_length, HW.out])
      go_wp2_with fail
      go_ret
      exact ⟨ret_int (by rw [HE.out]), hG0⟩
set_option maxRecDepth 100000 in
set_option maxHeartbeats 4000000 in
omit h in
theorem rwriter_any (w : World) (s e : Int) : Calls Try.prog 59 #[.agg #[.int .i64 s, .int .i64 e]] w fun er w' => er = .returned (.bool (plainW s e)) ∧ Grew w w' := by
  have HB := Lib.hid (show plainW s e = decide (1 ≤ s ∧ s ≤ 4 ∧ 0 ≤ e ∧ e ≤ 1099511627776) from rfl)
  generalize plainW s e = b at *
  by_cases h1 : 1 ≤ s
  · by_cases h2 : s ≤ 4
    · by_cases h3 : 0 ≤ e
      · by_cases h4 : e ≤ 1099511627776
        · go_enter Try.func59, Try.ntmps59
          go_wp2_with fail
          go_ret
          exact ⟨ret_bool (by rw [HB.out, decide_eq_true (by omega)]), by (repeat' first | (with_reducible exact Grew.refl _) | (with_reducible assumption) | (with_reducible refine Grew.alloc ?_ _) | (with_reducible refine Grew.drew ?_) | (with_reducible refine Grew.drewN ?_ _) | (with_reducible refine Grew.setRow ?_ (by first | (simp; done) | (simp; omega) | omega) _) | (with_reducible refine Grew.setCell ?_ (by first | (simp; done) | (simp; omega) | omega) _) | ((with_reducible apply Grew.trans); rotate_left; (with_reducible assumption)) | ((with_reducible apply Grew.turn); rotate_left; (with_reducible assumption); (focus (intro i hi; first | omega | (simp at hi; omega)))) | fail)⟩
        · go_enter Try.func59, Try.ntmps59
          go_wp2_with fail
          go_ret
          exact ⟨ret_bool (by rw [HB.out, decide_eq_false (by omega)]), by (repeat' first | (with_reducible exact Grew.refl _) | (with_reducible assumption) | (with_reducible refine Grew.alloc ?_ _) | (with_reducible refine Grew.drew ?_) | (with_reducible refine Grew.drewN ?_ _) | (with_reducible refine Grew.setRow ?_ (by first | (simp; done) | (simp; omega) | omega) _) | (with_reducible refine Grew.setCell ?_ (by first | (simp; done) | (simp; omega) | omega) _) | ((with_reducible apply Grew.trans); rotate_left; (with_reducible assumption)) | ((with_reducible apply Grew.turn); rotate_left; (with_reducible assumption); (focus (intro i hi; first | omega | (simp at hi; omega)))) | fail)⟩
      · go_enter Try.func59, Try.ntmps59
        go_wp2_with fail
        go_ret
        exact ⟨ret_bool (by rw [HB.out, decide_eq_false (by omega)]), by (repeat' first | (with_reducible exact Grew.refl _) | (with_reducible assumption) | (with_reducible refine Grew.alloc ?_ _) | (with_reducible refine Grew.drew ?_) | (with_reducible refine Grew.drewN ?_ _) | (with_reducible refine Grew.setRow ?_ (by first | (simp; done) | (simp; omega) | omega) _) | (with_reducible refine Grew.setCell ?_ (by first | (simp; done) | (simp; omega) | omega) _) | ((with_reducible apply Grew.trans); rotate_left; (with_reducible assumption)) | ((with_reducible apply Grew.turn); rotate_left; (with_reducible assumption); (focus (intro i hi; first | omega | (simp at hi; omega)))) | fail)⟩
    · go_enter Try.func59, Try.ntmps59
      go_wp2_with fail
      go_ret
      exact ⟨ret_bool (by rw [HB.out, decide_eq_false (by omega)]), by (repeat' first | (with_reducible exact Grew.refl _) | (with_reducible assumption) | (with_reducible refine Grew.alloc ?_ _) | (with_reducible refine Grew.drew ?_) | (with_reducible refine Grew.drewN ?_ _) | (with_reducible refine Grew.setRow ?_ (by first | (simp; done) | (simp; omega) | omega) _) | (with_reducible refine Grew.setCell ?_ (by first | (simp; done) | (simp; omega) | omega) _) | ((with_reducible apply Grew.trans); rotate_left; (with_reducible assumption)) | ((with_reducible apply Grew.turn); rotate_left; (with_reducible assumption); (focus (intro i hi; first | omega | (simp at hi; omega)))) | fail)⟩
  · go_enter Try.func59, Try.ntmps59
    go_wp2_with fail
    go_ret
    exact ⟨ret_bool (by rw [HB.out, decide_eq_false (by omega)]), by (repeat' first | (with_reducible exact Grew.refl _) | (with_reducible assumption) | (with_reducible refine Grew.alloc ?_ _) | (with_reducible refine Grew.drew ?_) | (with_reducible refine Grew.drewN ?_ _) | (with_reducible refine Grew.setRow ?_ (by first | (simp; done) | (simp; omega) | omega) _) | (with_reducible refine Grew.setCell ?_ (by first | (simp; done) | (simp; omega) | omega) _) | ((with_reducible apply Grew.trans); rotate_left; (with_reducible assumption)) | ((with_reducible apply Grew.turn); rotate_left; (with_reducible assumption); (focus (intro i hi; first | omega | (simp at hi; omega)))) | fail)⟩
omit h in
theorem fenL_at (D : Dev) (k : Nat) (h1 : 1 ≤ k) (h4 : k ≤ 4) : (fenL D)[k]'(by simp [fenL]; omega) = D.fen k := by
  match k, h1, h4 with
  | 1, _, _ => rfl
  | 2, _, _ => rfl
  | 3, _, _ => rfl
  | 4, _, _ => rfl
set_option maxRecDepth 100000 in
set_option maxHeartbeats 4000000 in
theorem rfenced_any (s e : Int) (h1 : 1 ≤ s) (h4 : s ≤ 4) (he : okI e) : Calls Try.prog 60 #[.agg (rv p D), .agg #[.int .i64 s, .int .i64 e]] w fun er w' => er = .returned (.bool (decide (e < D.fen s))) ∧ Grew w w' := by
  obtain ⟨k, rfl⟩ : ∃ k : Nat, s = (k : Int) := ⟨s.toNat, by omega⟩
  have hk : k < (fenL D).length := by simp [fenL]; omega
  obtain ⟨b, off, hA, hbb, y0⟩ := int_at h.fen hk
  rw [fenL_at D k (by omega) (by omega)] at y0
  have hcap := h.cap3
  have hfb := h.ok.fen k
  unfold capOk at hcap
  unfold okI at he
  have hb := Blk.new w 32 (rv p D) rfl
  have hb1 := hb.alloc (.cells #[.int .i64 (k : Int), .int .i64 e] 40)
  have hW := Blk.new (w.alloc (.cells (rv p D) 32)) 40 #[.int .i64 (k : Int), .int .i64 e] (n := w.heap.size + 1) (by simp)
  have hG0 := ((Grew.refl w).alloc (.cells (rv p D) 32)).alloc (.cells #[.int .i64 (k : Int), .int .i64 e] 40)
  have y1 := (hG0.cellEq _ _ hbb).trans y0
  have x3 := hb1.cell 3
  have u0 := hW.cell 0
  have u1 := hW.cell 1
  generalize D.fen k = f at *
  unfold rv at hG0 y1 x3 u0 u1 ⊢
  rw [hA] at hG0 y1 x3 u0 u1 ⊢
  clear h hb hb1 hW hA y0
  go_enter Try.func60, Try.ntmps60
  go_wp2_with fail
  obtain ⟨w1, hw1⟩ : ∃ w1, w1 = (w.alloc (.cells #[.slice p.A0 D.st.length p.c0, .slice p.A1 D.st.length p.c1, .slice p.A2 D.pend.length p.c2, .slice (some ⟨b, off, none⟩) 5 p.c3, .bool D.failed, .int .i64 p.fu, .slice p.A6 p.svl.length p.c6] 32)).alloc (.cells #[.int .i64 (k : Int), .int .i64 e] 40) := ⟨_, rfl⟩
  rw [← hw1] at hG0 y1 x3 u0 u1 ⊢
  clear hw1
  refine wp_region_R [] (fun w' : World => w'.cell? ⟨w.heap.size, 3, none⟩ = some (.slice (some ⟨b, off, none⟩) 5 p.c3) ∧ w'.cell? ⟨w.heap.size + 1, 0, none⟩ = some (.int .i64 (k : Int)) ∧ w'.cell? ⟨w.heap.size + 1, 1, none⟩ = some (.int .i64 e) ∧ w'.cell? ⟨b, off + k, none⟩ = some (.int .i64 f)) (by kernel_rfl) ?_
  have hS := (show (fun w' : World => w'.cell? ⟨w.heap.size, 3, none⟩ = some (.slice (some ⟨b, off, none⟩) 5 p.c3) ∧ w'.cell? ⟨w.heap.size + 1, 0, none⟩ = some (.int .i64 (k : Int)) ∧ w'.cell? ⟨w.heap.size + 1, 1, none⟩ = some (.int .i64 e) ∧ w'.cell? ⟨b, off + k, none⟩ = some (.int .i64 f)) w1.drew from ⟨x3, u0, u1, y1⟩)
  refine wpAnyR_takeQ (i := 0) (v := ?_) (some 5) rfl rfl (by kernel_rfl) (by kernel_rfl) (by kernel_rfl) (by kernel_rfl) (fun _ _ _ h => h) (Or.inl ⟨by rfl, ?_⟩) ?_
  rotate_left
  focus (intro wS hSw; (try dsimp only at hSw); go_simp; (try with_reducible rfl); (try (first | (rw [if_pos (by omega)]; (try go_simp); (try with_reducible rfl)) | (rw [if_neg (by omega)]; (try go_simp); (try with_reducible rfl)))))
  try simp only [Act.put, List.setIfInBounds_toArray, List.set_cons_zero, List.set_cons_succ]
  refine wpAnyR_take (i := 1) (v := ?_) [8, 9] (some 6) rfl rfl (by kernel_rfl) (by kernel_rfl) (by kernel_rfl) (by kernel_rfl) (by kernel_rfl) (by kernel_rfl) (by kernel_rfl) (fun _ _ _ h => h) (Or.inl ⟨by rfl, ?_⟩) hS ?_
  rotate_left
  focus (intro wS hSw; (try dsimp only at hSw); go_simp; (try with_reducible rfl); (try (first | (rw [if_pos (by omega)]; (try go_simp); (try with_reducible rfl)) | (rw [if_neg (by omega)]; (try go_simp); (try with_reducible rfl)))))
  try simp only [Act.put, List.setIfInBounds_toArray, List.set_cons_zero, List.set_cons_succ]
  refine wpAnyR_takeQ (i := 2) (v := ?_) (some 7) rfl rfl (by kernel_rfl) (by kernel_rfl) (by kernel_rfl) (by kernel_rfl) (fun _ _ _ h => h) (Or.inl ⟨by rfl, ?_⟩) ?_
  rotate_left
  focus (intro wS hSw; (try dsimp only at hSw); go_simp; (try with_reducible rfl); (try (first | (rw [if_pos (by omega)]; (try go_simp); (try with_reducible rfl)) | (rw [if_neg (by omega)]; (try go_simp); (try with_reducible rfl)))))
  try simp only [Act.put, List.setIfInBounds_toArray, List.set_cons_zero, List.set_cons_succ]
  refine wpAnyR_take (i := 3) (v := ?_) [6, 7, 8, 9] (some 8) rfl rfl (by kernel_rfl) (by kernel_rfl) (by kernel_rfl) (by kernel_rfl) (by kernel_rfl) (by kernel_rfl) (by kernel_rfl) (fun _ _ _ h => h) (Or.inl ⟨by rfl, ?_⟩) hS ?_
  rotate_left
  focus (intro wS hSw; (try dsimp only at hSw); go_simp; (try with_reducible rfl); (try (first | (rw [if_pos (by omega)]; (try go_simp); (try with_reducible rfl)) | (rw [if_neg (by omega)]; (try go_simp); (try with_reducible rfl)))))
  try simp only [Act.put, List.setIfInBounds_toArray, List.set_cons_zero, List.set_cons_succ]
  refine wpAnyR_takeQ (i := 4) (v := ?_) (some 9) rfl rfl (by kernel_rfl) (by kernel_rfl) (by kernel_rfl) (by kernel_rfl) (fun _ _ _ h => h) (Or.inl ⟨by rfl, ?_⟩) ?_
  rotate_left
  focus (intro wS hSw; (try dsimp only at hSw); go_simp; (try with_reducible rfl); (try (first | (rw [if_pos (by omega)]; (try go_simp); (try with_reducible rfl)) | (rw [if_neg (by omega)]; (try go_simp); (try with_reducible rfl)))))
  try simp only [Act.put, List.setIfInBounds_toArray, List.set_cons_zero, List.set_cons_succ]
  refine wpAnyR_take (i := 5) (v := ?_) [6, 7, 8, 9] (some 10) rfl rfl (by kernel_rfl) (by kernel_rfl) (by kernel_rfl) (by kernel_rfl) (by kernel_rfl) (by kernel_rfl) (by kernel_rfl) (fun _ _ _ h => h) (Or.inl ⟨by rfl, ?_⟩) hS ?_
  rotate_left
  focus (intro wS hSw; (try dsimp only at hSw); go_simp; (try with_reducible rfl); (try (first | (rw [if_pos (by omega)]; (try go_simp); (try with_reducible rfl)) | (rw [if_neg (by omega)]; (try go_simp); (try with_reducible rfl)))))
  try simp only [Act.put, List.setIfInBounds_toArray, List.set_cons_zero, List.set_cons_succ]
  refine wpAnyR_takeQ (i := 6) (v := ?_) (some 11) rfl rfl (by kernel_rfl) (by kernel_rfl) (by kernel_rfl) (by kernel_rfl) (fun _ _ _ h => h) (Or.inl ⟨by rfl, ?_⟩) ?_
  rotate_left
  focus (intro wS hSw; (try dsimp only at hSw); go_simp; (try with_reducible rfl); (try (first | (rw [if_pos (by omega)]; (try go_simp); (try with_reducible rfl)) | (rw [if_neg (by omega)]; (try go_simp); (try with_reducible rfl)))))
  try simp only [Act.put, List.setIfInBounds_toArray, List.set_cons_zero, List.set_cons_succ]
  refine wpAnyR_take (i := 7) (v := ?_) [8, 9] (some 12) rfl rfl (by kernel_rfl) (by kernel_rfl) (by kernel_rfl) (by kernel_rfl) (by kernel_rfl) (by kernel_rfl) (by kernel_rfl) (fun _ _ _ h => h) (Or.inl ⟨by rfl, ?_⟩) hS ?_
  rotate_left
  focus (intro wS hSw; (try dsimp only at hSw); go_simp; (try with_reducible rfl); (try (first | (rw [if_pos (by omega)]; (try go_simp); (try with_reducible rfl)) | (rw [if_neg (by omega)]; (try go_simp); (try with_reducible rfl)))))
  try simp only [Act.put, List.setIfInBounds_toArray, List.set_cons_zero, List.set_cons_succ]
  refine wpAnyR_takeQ (i := 8) (v := ?_) (some 13) rfl rfl (by kernel_rfl) (by kernel_rfl) (by kernel_rfl) (by kernel_rfl) (fun _ _ _ h => h) (Or.inl ⟨by rfl, ?_⟩) ?_
  rotate_left
  focus (intro wS hSw; (try dsimp only at hSw); go_simp; (try with_reducible rfl); (try (first | (rw [if_pos (by omega)]; (try go_simp); (try with_reducible rfl)) | (rw [if_neg (by omega)]; (try go_simp); (try with_reducible rfl)))))
  try simp only [Act.put, List.setIfInBounds_toArray, List.set_cons_zero, List.set_cons_succ]
  refine wpAnyR_takeQ (i := 9) (v := ?_) (some 4) rfl rfl (by kernel_rfl) (by kernel_rfl) (by kernel_rfl) (by kernel_rfl) (fun _ _ _ h => h) (Or.inl ⟨by rfl, ?_⟩) ?_
  rotate_left
  focus (intro wS hSw; (try dsimp only at hSw); go_simp; (try with_reducible rfl); (try (first | (rw [if_pos (by omega)]; (try go_simp); (try with_reducible rfl)) | (rw [if_neg (by omega)]; (try go_simp); (try with_reducible rfl)))))
  try simp only [Act.put, List.setIfInBounds_toArray, List.set_cons_zero, List.set_cons_succ]
  refine wpAnyR_done (by kernel_rfl) ?_ _
  clear hS
  go_wp2_with fail
  go_ret
  exact ⟨rfl, hG0.drew⟩
set_option maxRecDepth 100000 in
set_option maxHeartbeats 4000000 in
theorem rrepair_any : Calls Try.prog 50 #[.agg (rv p D)] w fun er w' => er = .returned (.agg (rv { p with fu := -1 } (repairD D))) ∧ Grew w w' := by
  have hb := (Blk.new w 32 (rv p D) rfl).alloc (.cells #[.slice none 0 0, .slice none 0 0, .slice none 0 0, .slice none 0 0, .bool false, .int .i64 0, .slice none 0 0] 32)
  have hr := Blk.new (w.alloc (.cells (rv p D) 32)) 32 #[.slice none 0 0, .slice none 0 0, .slice none 0 0, .slice none 0 0, .bool false, .int .i64 0, .slice none 0 0] (n := w.heap.size + 1) (by simp)
  have hG0 := ((Grew.refl w).alloc (.cells (rv p D) 32)).alloc (.cells #[.slice none 0 0, .slice none 0 0, .slice none 0 0, .slice none 0 0, .bool false, .int .i64 0, .slice none 0 0] 32)
  unfold repairD
  unfold rv at hb hr hG0 ⊢
  clear h
  obtain ⟨w1, hw1⟩ : ∃ w1, w1 = (w.alloc (.cells #[.slice p.A0 D.st.length p.c0, .slice p.A1 D.st.length p.c1, .slice p.A2 D.pend.length p.c2, .slice p.A3 5 p.c3, .bool D.failed, .int .i64 p.fu, .slice p.A6 p.svl.length p.c6] 32)).alloc (.cells #[.slice none 0 0, .slice none 0 0, .slice none 0 0, .slice none 0 0, .bool false, .int .i64 0, .slice none 0 0] 32) := ⟨_, rfl⟩
  go_enter Try.func50, Try.ntmps50
  go_upto_region 1 with fail
  rw [← hw1] at hb hr hG0 ⊢
  clear hw1
  have x0 := hb.cell 0
  have y0 := hr.cell 0
  have f0 := hr.frozen 0
  have x1 := hb.cell 1
  have y1 := hr.cell 1
  have f1 := hr.frozen 1
  have x2 := hb.cell 2
  have y2 := hr.cell 2
  have f2 := hr.frozen 2
  have x3 := hb.cell 3
  have y3 := hr.cell 3
  have f3 := hr.frozen 3
  have x4 := hb.cell 4
  have y4 := hr.cell 4
  have f4 := hr.frozen 4
  have x5 := hb.cell 5
  have y5 := hr.cell 5
  have f5 := hr.frozen 5
  have x6 := hb.cell 6
  have y6 := hr.cell 6
  have f6 := hr.frozen 6
  have g4 := hb.frozen 4
  have g5 := hb.frozen 5
  have hxl := hb.lt
  have hyl := hr.lt
  clear hb hr
  go_wp2_with fail
  refine bodyPost_ret (by first | (simp [*, results, Try.results50, go_sem]; rfl) | simp [*, results, Try.results50, go_sem]) rfl ?_
  refine ⟨rfl, ?_⟩
  (repeat' first | (with_reducible exact Grew.refl _) | (with_reducible assumption) | (with_reducible refine Grew.alloc ?_ _) | (with_reducible refine Grew.drew ?_) | (with_reducible refine Grew.drewN ?_ _) | (with_reducible refine Grew.setRow ?_ (by first | (simp; done) | (simp; omega) | omega) _) | (with_reducible refine Grew.setCell ?_ (by first | (simp; done) | (simp; omega) | omega) _) | ((with_reducible apply Grew.trans); rotate_left; (with_reducible assumption)) | ((with_reducible apply Grew.turn); rotate_left; (with_reducible assumption); (focus (intro i hi; first | omega | (simp at hi; omega)))) | fail)
end
end Go.Proofs.Ytklojcgbokmkhaa
