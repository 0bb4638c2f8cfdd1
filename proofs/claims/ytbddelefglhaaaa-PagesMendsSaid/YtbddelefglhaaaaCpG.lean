/- Chapter 4: an unfinished intent, its slots (pages.Store.intent). Chapter 4: Finish. Chapter 4: Number, Open. Chapter 4: Format. Chapter 4: what the top and the map say during a call (pages.view). -/
import Derived.Deep.LoopGhost
import Derived.Test.YtbddelefglhaaaaCpF
namespace Go.Proofs.Ytbddelefglhaaaa
set_option linter.unusedVariables false
set_option linter.unusedSimpArgs false
set_option linter.unusedSectionVars false
open Go.RowKit
attribute [local go_sem ↓] Go.wp_at_zero Go.wp_at_succ
theorem okSlot_iff (n : Nat) (m : U32) (s : ByteArray) : okSlot n m s = true ↔ okR s (selfI s) ∧ numS (s.extract 128 132) = m ∧ ¬ (32 < selfI s ∧ (selfI s < 131 ∨ (n : Int) ≤ selfI s)) := by
  unfold okSlot
  simp [and_assoc]
  intro _ _
  omega
theorem unpackS_yes (t : ByteArray) (i : Int) (h : okR t i) : unpackS t i = (t.extract 0 128, numS (t.extract 128 132), 0) := by unfold unpackS; rw [if_pos h]
/-- .. while a list of the call's own grows. -/
theorem looked_own {w0 : World} {x s m : Nat} {sy ep : Int} {D : Dev} {out : Nat → Prop} {W w1 w2 : World} {row : Option Nat} (h : Held w0 x s m sy ep D out W) (hl : Looked w0 x s m sy ep D out W w1) (hg : w1.grownBy w2 row) (hr : ∀ k, row = some k → W.heap.size ≤ k) : Looked w0 x s m sy ep D out W w2 :=
  looked_loc h hl ⟨hg.os, hg.tape, hg.output, hg.size, fun k hk hn => hg.block k hk (fun e => hn (hr k e.symm))⟩
section
variable {w0 : World} {x s m : Nat} {sy ep : Int} {D : Dev} {out : Nat → Prop} {W : World} (h : Held w0 x s m sy ep D out W) (hlen : 132 ≤ D.st.length) (hf : D.failed = false) (d : ByteArray) (v : BitVec 32) (hd : headI D = ⟨d, v, true⟩) (hv : fld d 0 = v) (hc : 1 ≤ cntI D ∧ cntI D ≤ 97) (hz : d.extract 12 128 = zeroS 116)
include h hlen hf hd hv hc hz
set_option maxRecDepth 100000 in
set_option maxHeartbeats 4000000 in
theorem intent_slots : Calls Try.prog 78 #[ptrV s] W (IntP w0 x s m sy ep D out W (intentL D, 0)) := by
  have hr := readR_ok hf 33 (by omega)
  rw [show rawOf (D.content 33) ((33 : Nat) : Int) = headI D from rfl, hd] at hr
  have hds : d.size = 128 := by have := rawOf_full (t := D.content 33) (i := 33) (by rw [show rawOf (D.content 33) 33 = headI D from rfl, hd]); rw [show rawOf (D.content 33) 33 = headI D from rfl, hd] at this; exact this
  have HRD := Lib.hid (fun w1 (hg : Grew W w1) => read_is (h.grew hg) 33 (by unfold okI; omega) _ _ _ 0 hr)
  have HF : Hid (∀ (k : Nat) (i : Int), k < 3 → i = (k : Int) → ∀ (g : Nat) (w : World), Blk w g 87 #[.string d, .int .u32 (u32 v), .bool true] → Calls Try.prog 87 #[.int .i64 i, ptrV g] w fun e w' => e = .returned (.int .u32 (u32 (fld d k))) ∧ Grew w w') := Lib.hid (fun k i hk hi g w hb => by rw [hi]; exact field_any k g hk d _ _ hds w hb)
  have u0 := u32_bd (fld d 0)
  have u1 := u32_bd (fld d 1)
  have u2 := u32_bd (fld d 2)
  have uv := u32_bd v
  have hb : (u32 (fld d 0) != u32 v) = false := by rw [hv]; simp
  have hcn : u32 (fld d 1) = ((cntI D : Nat) : Int) := by unfold cntI; rw [hd]; rfl
  obtain ⟨n, hn⟩ : ∃ n, cntI D = n := ⟨_, rfl⟩
  rw [hn] at hc hcn
  have hcb : decide ((n : Int) < 1) = false := decide_eq_false (by omega)
  have hcb2 : decide (97 < (n : Int)) = false := decide_eq_false (by omega)
  have hc1 : (n : Int) ≥ 1 := by omega
  have hc2 : (n : Int) ≤ 97 := by omega
  have hds2 : 128 ≤ d.size ∧ d.size ≤ 128 := by omega
  have HDS := Lib.hid (show d.extract 12 d.size = d.extract 12 128 from by rw [hds])
  have hzb : ((d.extract 12 128).toList == (zeroS 116).toList) = true := by rw [hz, beq_iff_eq]
  have hH1 : headB' D = true := by unfold headB'; rw [hd, hn, decide_eq_true hc, decide_eq_true hz]; simp [hv]
  have HH1 := Lib.hid hH1
  have HN := Lib.hid hn
  have HV := Lib.hid (show (headI D).ver = v from by rw [hd])
  have HV0 := Lib.hid hv
  have HFS := Lib.hid (show fld (headI D).data 2 = fld d 2 from by rw [hd])
  have HLEN := Lib.hid hlen
  have HFF := Lib.hid hf
  rw [hcn] at u1
  have HH := Lib.hid h
  clear h hr hf hlen hd hds hv hz hn hH1
  go_enter Try.func78, Try.ntmps78
  go_wp2_with fail
  refine (HRD.out _ (Grew.refl W)).mono ?_
  rintro e w1 ⟨rfl, hl1⟩
  have hb1 : Blk (w1.alloc (.cells #[.string d, .int .u32 (u32 v), .bool true] 87)) w1.heap.size 87 #[.string d, .int .u32 (u32 v), .bool true] := Blk.new w1 _ _ rfl
  have hw1 := hl1.turned.size
  have HL1 := Lib.hid (hl1.grew ((Grew.refl w1).alloc (.cells #[.string d, .int .u32 (u32 v), .bool true] 87)))
  have HB1 := Lib.hid hb1
  clear hl1 hb1
  go_wp2_with fail
  refine (HF.out 0 0 (by omega) rfl _ _ HB1.out).mono ?_
  rintro e w2 ⟨rfl, g2⟩
  have HB2 := Lib.hid (HB1.out.grew g2)
  have HL2 := Lib.hid (HL1.out.grew g2)
  clear g2
  go_wp2_with fail
  refine (HF.out 1 1 (by omega) rfl _ _ HB2.out).mono ?_
  rintro e w3 ⟨rfl, g3⟩
  have HB3 := Lib.hid (HB2.out.grew g3)
  have HL3 := Lib.hid (HL2.out.grew g3)
  clear g3
  go_wp2_with fail
  refine (HF.out 2 2 (by omega) rfl _ _ HB3.out).mono ?_
  rintro e w4 ⟨rfl, g4⟩
  have HB4 := Lib.hid (HB3.out.grew g4)
  have HL4 := Lib.hid (HL3.out.grew g4)
  clear g4
  go_wp2_with fail
  refine wp_region_R [] (fun w' : World => w'.cell? ⟨w1.heap.size, 0, none⟩ = some (.string d) ∧ w'.cell? ⟨w1.heap.size, 1, none⟩ = some (.int .u32 (u32 v)) ∧ w1.heap.size < w'.heap.size) (by kernel_rfl) ?_
  have hS := (show (fun w' : World => w'.cell? ⟨w1.heap.size, 0, none⟩ = some (.string d) ∧ w'.cell? ⟨w1.heap.size, 1, none⟩ = some (.int .u32 (u32 v)) ∧ w1.heap.size < w'.heap.size) w4.drew from ⟨HB4.out.drew.cell 0, HB4.out.drew.cell 1, HB4.out.drew.lt⟩)
  refine wpAnyR_takeQ (i := 0) (v := ?_) (some 40) rfl rfl (by kernel_rfl) (by kernel_rfl) (by kernel_rfl) (by kernel_rfl) (fun _ _ _ h => h) (Or.inl ⟨by rfl, ?_⟩) ?_
  rotate_left
  focus (intro wS hSw; (try dsimp only at hSw); go_simp; (try with_reducible rfl); (try (first | (rw [if_pos (by omega)]; (try go_simp); (try with_reducible rfl)) | (rw [if_neg (by omega)]; (try go_simp); (try with_reducible rfl)))))
  try simp only [Act.put, List.setIfInBounds_toArray, List.set_cons_zero, List.set_cons_succ]
  refine wpAnyR_takeQ (i := 1) (v := ?_) (some 41) rfl rfl (by kernel_rfl) (by kernel_rfl) (by kernel_rfl) (by kernel_rfl) (fun _ _ _ h => h) (Or.inl ⟨by rfl, ?_⟩) ?_
  rotate_left
  focus (intro wS hSw; (try dsimp only at hSw); go_simp; (try with_reducible rfl); (try (first | (rw [if_pos (by omega)]; (try go_simp); (try with_reducible rfl)) | (rw [if_neg (by omega)]; (try go_simp); (try with_reducible rfl)))))
  try simp only [Act.put, List.setIfInBounds_toArray, List.set_cons_zero, List.set_cons_succ]
  refine wpAnyR_take (i := 2) (v := ?_) [3, 4, 5, 6, 7, 8, 9, 10, 11, 12, 13, 14, 15, 16, 17, 18, 19] (some 42) rfl rfl (by kernel_rfl) (by kernel_rfl) (by kernel_rfl) (by kernel_rfl) (by kernel_rfl) (by kernel_rfl) (by kernel_rfl) (fun _ _ _ h => h) (Or.inl ⟨by rfl, ?_⟩) hS ?_
  rotate_left
  focus (intro wS hSw; (try dsimp only at hSw); go_simp; (try with_reducible rfl); (try (first | (rw [if_pos (by omega)]; (try go_simp); (try with_reducible rfl)) | (rw [if_neg (by omega)]; (try go_simp); (try with_reducible rfl)))))
  try simp only [Act.put, List.setIfInBounds_toArray, List.set_cons_zero, List.set_cons_succ]
  refine wpAnyR_takeQ (i := 3) (v := ?_) (some 43) rfl rfl (by kernel_rfl) (by kernel_rfl) (by kernel_rfl) (by kernel_rfl) (fun _ _ _ h => h) (Or.inl ⟨by rfl, ?_⟩) ?_
  rotate_left
  focus (intro wS hSw; (try dsimp only at hSw); go_simp; (try with_reducible rfl); (try (first | (rw [if_pos (by omega)]; (try go_simp); (try with_reducible rfl)) | (rw [if_neg (by omega)]; (try go_simp); (try with_reducible rfl)))))
  try simp only [Act.put, List.setIfInBounds_toArray, List.set_cons_zero, List.set_cons_succ]
  refine wpAnyR_takeQ (i := 4) (v := ?_) (some 44) rfl rfl (by kernel_rfl) (by kernel_rfl) (by kernel_rfl) (by kernel_rfl) (fun _ _ _ h => h) (Or.inl ⟨by rfl, ?_⟩) ?_
  rotate_left
  focus (intro wS hSw; (try dsimp only at hSw); go_simp; (try with_reducible rfl); (try (first | (rw [if_pos (by omega)]; (try go_simp); (try with_reducible rfl)) | (rw [if_neg (by omega)]; (try go_simp); (try with_reducible rfl)))))
  try simp only [Act.put, List.setIfInBounds_toArray, List.set_cons_zero, List.set_cons_succ]
  refine wpAnyR_takeQ (i := 5) (v := ?_) (some 45) rfl rfl (by kernel_rfl) (by kernel_rfl) (by kernel_rfl) (by kernel_rfl) (fun _ _ _ h => h) (Or.inl ⟨by rfl, ?_⟩) ?_
  rotate_left
  focus (intro wS hSw; (try dsimp only at hSw); go_simp; (try with_reducible rfl); (try (first | (rw [if_pos (by omega)]; (try go_simp); (try with_reducible rfl)) | (rw [if_neg (by omega)]; (try go_simp); (try with_reducible rfl)))))
  try simp only [Act.put, List.setIfInBounds_toArray, List.set_cons_zero, List.set_cons_succ]
  refine wpAnyR_takeQ (i := 6) (v := ?_) (some 46) rfl rfl (by kernel_rfl) (by kernel_rfl) (by kernel_rfl) (by kernel_rfl) (fun _ _ _ h => h) (Or.inl ⟨by rfl, ?_⟩) ?_
  rotate_left
  focus (intro wS hSw; (try dsimp only at hSw); go_simp; (try with_reducible rfl); (try (first | (rw [if_pos (by omega)]; (try go_simp); (try with_reducible rfl)) | (rw [if_neg (by omega)]; (try go_simp); (try with_reducible rfl)))))
  try simp only [Act.put, List.setIfInBounds_toArray, List.set_cons_zero, List.set_cons_succ]
  refine wpAnyR_takeQ (i := 7) (v := ?_) (some 47) rfl rfl (by kernel_rfl) (by kernel_rfl) (by kernel_rfl) (by kernel_rfl) (fun _ _ _ h => h) (Or.inl ⟨by rfl, ?_⟩) ?_
  rotate_left
  focus (intro wS hSw; (try dsimp only at hSw); go_simp; (try with_reducible rfl); (try (first | (rw [if_pos (by omega)]; (try go_simp); (try with_reducible rfl)) | (rw [if_neg (by omega)]; (try go_simp); (try with_reducible rfl)))))
  try simp only [Act.put, List.setIfInBounds_toArray, List.set_cons_zero, List.set_cons_succ]
  refine wpAnyR_takeQ (i := 8) (v := ?_) (some 48) rfl rfl (by kernel_rfl) (by kernel_rfl) (by kernel_rfl) (by kernel_rfl) (fun _ _ _ h => h) (Or.inl ⟨by rfl, ?_⟩) ?_
  rotate_left
  focus (intro wS hSw; (try dsimp only at hSw); go_simp; (try with_reducible rfl); (try (first | (rw [if_pos (by omega)]; (try go_simp); (try with_reducible rfl)) | (rw [if_neg (by omega)]; (try go_simp); (try with_reducible rfl)))))
  try simp only [Act.put, List.setIfInBounds_toArray, List.set_cons_zero, List.set_cons_succ]
  refine wpAnyR_takeQ (i := 9) (v := ?_) (some 49) rfl rfl (by kernel_rfl) (by kernel_rfl) (by kernel_rfl) (by kernel_rfl) (fun _ _ _ h => h) (Or.inl ⟨by rfl, ?_⟩) ?_
  rotate_left
  focus (intro wS hSw; (try dsimp only at hSw); go_simp; (try with_reducible rfl); (try (first | (rw [if_pos (by omega)]; (try go_simp); (try with_reducible rfl)) | (rw [if_neg (by omega)]; (try go_simp); (try with_reducible rfl)))))
  try simp only [Act.put, List.setIfInBounds_toArray, List.set_cons_zero, List.set_cons_succ]
  refine wpAnyR_takeQ (i := 10) (v := ?_) (some 50) rfl rfl (by kernel_rfl) (by kernel_rfl) (by kernel_rfl) (by kernel_rfl) (fun _ _ _ h => h) (Or.inl ⟨by rfl, ?_⟩) ?_
  rotate_left
  focus (intro wS hSw; (try dsimp only at hSw); go_simp; (try with_reducible rfl); (try (first | (rw [if_pos (by omega)]; (try go_simp); (try with_reducible rfl)) | (rw [if_neg (by omega)]; (try go_simp); (try with_reducible rfl)))))
  try simp only [Act.put, List.setIfInBounds_toArray, List.set_cons_zero, List.set_cons_succ]
  refine wpAnyR_takeQ (i := 11) (v := ?_) (some 51) rfl rfl (by kernel_rfl) (by kernel_rfl) (by kernel_rfl) (by kernel_rfl) (fun _ _ _ h => h) (Or.inl ⟨by rfl, ?_⟩) ?_
  rotate_left
  focus (intro wS hSw; (try dsimp only at hSw); go_simp; (try with_reducible rfl); (try (first | (rw [if_pos (by omega)]; (try go_simp); (try with_reducible rfl)) | (rw [if_neg (by omega)]; (try go_simp); (try with_reducible rfl)))))
  try simp only [Act.put, List.setIfInBounds_toArray, List.set_cons_zero, List.set_cons_succ]
  refine wpAnyR_takeQ (i := 12) (v := ?_) (some 52) rfl rfl (by kernel_rfl) (by kernel_rfl) (by kernel_rfl) (by kernel_rfl) (fun _ _ _ h => h) (Or.inl ⟨by rfl, ?_⟩) ?_
  rotate_left
  focus (intro wS hSw; (try dsimp only at hSw); go_simp; (try with_reducible rfl); (try (first | (rw [if_pos (by omega)]; (try go_simp); (try with_reducible rfl)) | (rw [if_neg (by omega)]; (try go_simp); (try with_reducible rfl)))))
  try simp only [Act.put, List.setIfInBounds_toArray, List.set_cons_zero, List.set_cons_succ]
  refine wpAnyR_takeQ (i := 13) (v := ?_) (some 53) rfl rfl (by kernel_rfl) (by kernel_rfl) (by kernel_rfl) (by kernel_rfl) (fun _ _ _ h => h) (Or.inl ⟨by rfl, ?_⟩) ?_
  rotate_left
  focus (intro wS hSw; (try dsimp only at hSw); go_simp; (try with_reducible rfl); (try (first | (rw [if_pos (by omega)]; (try go_simp); (try with_reducible rfl)) | (rw [if_neg (by omega)]; (try go_simp); (try with_reducible rfl)))))
  try simp only [Act.put, List.setIfInBounds_toArray, List.set_cons_zero, List.set_cons_succ]
  refine wpAnyR_take (i := 14) (v := ?_) [15, 18, 19] (some 54) rfl rfl (by kernel_rfl) (by kernel_rfl) (by kernel_rfl) (by kernel_rfl) (by kernel_rfl) (by kernel_rfl) (by kernel_rfl) (fun _ _ _ h => h) (Or.inl ⟨by rfl, ?_⟩) hS ?_
  rotate_left
  focus (intro wS hSw; (try dsimp only at hSw); go_simp; (try with_reducible rfl); (try (first | (rw [if_pos (by omega)]; (try go_simp); (try with_reducible rfl)) | (rw [if_neg (by omega)]; (try go_simp); (try with_reducible rfl)))))
  try simp only [Act.put, List.setIfInBounds_toArray, List.set_cons_zero, List.set_cons_succ]
  refine wpAnyR_takeQ (i := 15) (v := ?_) (some 55) rfl rfl (by kernel_rfl) (by kernel_rfl) (by kernel_rfl) (by kernel_rfl) (fun _ _ _ h => h) (Or.inl ⟨by rfl, ?_⟩) ?_
  rotate_left
  focus (intro wS hSw; (try dsimp only at hSw); go_simp; (try with_reducible rfl); (try (first | (rw [if_pos (by omega)]; (try go_simp); (try with_reducible rfl)) | (rw [if_neg (by omega)]; (try go_simp); (try with_reducible rfl)))))
  try simp only [Act.put, List.setIfInBounds_toArray, List.set_cons_zero, List.set_cons_succ]
  clear hS
  have hmk : (Instr.makeSlice 75 (.int .i64 116) (.int .i64 116)).run Try.prog w4.drew = _ := made_bytes w4.drew 116 (by omega)
  have hbz : Blk (w4.alloc (.cells (cellsB (zeroS 116)) 5)).drew w4.heap.size 5 (cellsB (zeroS 116)) := (Blk.new w4 _ _ rfl).drew
  have hg5 : Grew w4 (w4.alloc (.cells (cellsB (zeroS 116)) 5)).drew := ((Grew.refl w4).alloc _).drew
  have hcv : (convert 75 9 (.slice (some ⟨w4.heap.size, 0, none⟩) 116 116)).run Try.prog (w4.alloc (.cells (cellsB (zeroS 116)) 5)).drew = .ok (.string (zeroS 116)) (w4.alloc (.cells (cellsB (zeroS 116)) 5)).drew := conv_cells _ _ 116 (zeroS 116) (zeroS_size 116) hbz
  have hb5 := HB4.out.grew hg5
  have HL5 := Lib.hid (HL4.out.grew hg5)
  clear hbz hg5
  refine wpAnyR_n1 (i := 16) rfl (by kernel_rfl) ?_
  intro K' hK
  rw [if_pos (by rfl)]
  simp only [List.getElem_toArray, List.getElem_cons_succ, List.getElem_cons_zero]
  go_wp2_with fail
  refine hK.out _ _ (.inr (fun _ => ⟨hb5.cell 0, hb5.cell 1, hb5.lt⟩)) ?_
  clear hK
  refine wpAnyR_n1 (i := 17) rfl (by kernel_rfl) ?_
  intro K' hK
  rw [if_pos (by rfl)]
  simp only [List.getElem_toArray, List.getElem_cons_succ, List.getElem_cons_zero]
  go_wp2_with fail
  refine hK.out _ _ (.inr (fun _ => ⟨hb5.cell 0, hb5.cell 1, hb5.lt⟩)) ?_
  clear hK hcv hmk
  obtain ⟨w5, hw5⟩ : ∃ w5, w5 = (w4.alloc (.cells (cellsB (zeroS 116)) 5)).drew := ⟨_, rfl⟩
  rw [← hw5] at hb5 HL5 ⊢
  have HB5 := Lib.hid hb5
  clear hw5 hb5
  rw [HDS.out]
  refine wpAnyR_takeQ (i := 18) (v := ?_) (some 58) rfl rfl (by kernel_rfl) (by kernel_rfl) (by kernel_rfl) (by kernel_rfl) (fun _ _ _ h => h) (Or.inl ⟨by rfl, ?_⟩) ?_
  rotate_left
  focus (intro wS hSw; (try dsimp only at hSw); go_simp; (try with_reducible rfl); (try (first | (rw [if_pos (by omega)]; (try go_simp); (try with_reducible rfl)) | (rw [if_neg (by omega)]; (try go_simp); (try with_reducible rfl)))))
  try simp only [Act.put, List.setIfInBounds_toArray, List.set_cons_zero, List.set_cons_succ]
  refine wpAnyR_takeQ (i := 19) (v := ?_) (some 59) rfl rfl (by kernel_rfl) (by kernel_rfl) (by kernel_rfl) (by kernel_rfl) (fun _ _ _ h => h) (Or.inl ⟨by rfl, ?_⟩) ?_
  rotate_left
  focus (intro wS hSw; (try dsimp only at hSw); go_simp; (try with_reducible rfl); (try (first | (rw [if_pos (by omega)]; (try go_simp); (try with_reducible rfl)) | (rw [if_neg (by omega)]; (try go_simp); (try with_reducible rfl)))))
  try simp only [Act.put, List.setIfInBounds_toArray, List.set_cons_zero, List.set_cons_succ]
  refine wpAnyR_done (by kernel_rfl) ?_ _
  go_wp2_with fail
  clear hcb hcb2 hb hzb u1
  have hwW : W.heap.size ≤ w5.heap.size := HL5.out.turned.size
  go_loopg [10, 11, 62] n (fun gk l a i wr => ∃ k : Nat, k ≤ n ∧ gk = n - k ∧ i = .int .i64 k ∧ OwnL wr W.heap.size 101 2 l ((entsD D k).map entC) ∧ a = .string (catB (slotsD D k)) ∧ Looked w0 x s m sy ep D out W wr ∧ (∀ j, j < k → okSlot D.st.length v (slotI D j) = true))
  case atStart => exact ⟨0, by omega, by omega, rfl, OwnL.nil .., rfl, HL5.out, fun j hj => absurd hj (by omega)⟩
  case round =>
    obtain ⟨k, hk, hgk, rfl, hown, rfl, hl, hslots⟩ := hrel
    have HGK := Lib.hid hgk
    have HOWN := Lib.hid hown
    have HL := Lib.hid hl
    have HSL := Lib.hid hslots
    clear hgk hown hl hslots
    by_cases hlt : k < n
    · have hki : (k : Int) < (n : Int) := by omega
      have hrk : readD D (34 + (k : Int)) = (slotI D k, 0) := by
        rw [show (34 + (k : Int)) = ((34 + k : Nat) : Int) from by omega]
        exact readD_ok HFF.out (34 + k) (by have := HLEN.out; omega)
      have HRK := Lib.hid (read_live HL.out.live (34 + (k : Int)) _ _ hrk)
      obtain ⟨t, ht⟩ : ∃ t, slotI D k = t := ⟨_, rfl⟩
      have htz : t.size = 140 := by rw [← ht]; exact content_size HL.out.live.ok (by have := HLEN.out; omega)
      rw [ht] at HRK
      have hts : 140 ≤ t.size ∧ t.size ≤ 140 := by omega
      have HNU := Lib.hid (fun (w : World) => number_any (t.extract 132 136) (by rw [ByteArray.size_extract]; omega) w)
      obtain ⟨p, hp⟩ : ∃ p, numS (t.extract 132 136) = p := ⟨_, rfl⟩
      rw [hp] at HNU
      have hself : selfI t = u32 p := by unfold selfI; rw [hp]
      have hpb := u32_bd p
      obtain ⟨ud, uv, ue, hu⟩ : ∃ a b c, unpackS t (u32 p) = (a, b, c) := ⟨_, _, _, rfl⟩
      have HU := Lib.hid (fun (w : World) => unpack_any t (u32 p) w (by omega) (by unfold okI; omega) _ _ _ hu)
      have hb0 := HL.out.store.blk
      unfold storeC at hb0
      have s0 := hb0.cell 0
      have sl := hb0.lt
      have HT := Lib.hid ht
      have HSELF := Lib.hid hself
      have HUU := Lib.hid hu
      clear hrk ht hp hself hu hb0 htz
      go_wp2_with fail
      refine HRK.out.mono ?_
      rintro e w6 ⟨rfl, rfl⟩
      go_wp2_with fail
      refine (HNU.out _).mono ?_
      rintro e w7 ⟨rfl, g7⟩
      have HG7 := Lib.hid g7
      clear g7 s0 sl
      go_wp2_with fail
      refine (HU.out _).mono ?_
      rintro e w8 ⟨rfl, g8⟩
      have HG8 := Lib.hid (HG7.out.trans g8)
      clear g8
      by_cases ho : okR t (u32 p)
      · have h1 := HUU.out
        rw [unpackS_yes t _ ho] at h1
        injection h1 with h1 h2
        injection h2 with h2 h3
        subst h1; subst h3
        by_cases hvv : uv = v
        · have hbv : (u32 uv != u32 (fld d 0)) = false := by rw [HV0.out, hvv]; simp
          by_cases i1 : 32 < u32 p
          · have hb32 : decide (32 < u32 p) = true := decide_eq_true i1
            by_cases i2 : u32 p < 131
            · have hb131 : decide (u32 p < 131) = true := decide_eq_true i2
              have HI := Lib.hid (int_no2 (D := D) k (by rw [HN.out]; exact hlt) (by rw [HV.out, HT.out, Bool.eq_false_iff]; intro e; have e2 := (okSlot_iff _ _ _).1 e; rw [HSELF.out] at e2; exact absurd e2.2.2 (fun e9 => e9 ⟨i1, .inl i2⟩)))
              clear hvv h2 i1 i2 ho
              go_wp2_with fail
              go_ret2
              rw [HI.out]
              exact ⟨_, rfl, OwnL.nil .., HL.out.grew HG8.out⟩
            · have hb131 : decide (u32 p < 131) = false := decide_eq_false i2
              have hb131n : ¬ u32 p < 131 := i2
              by_cases i3 : (D.st.length : Int) ≤ u32 p
              · have hbn : decide ((D.st.length : Int) ≤ u32 p) = true := decide_eq_true i3
                have hbn2 : u32 p ≥ (D.st.length : Int) := i3
                have HI := Lib.hid (int_no2 (D := D) k (by rw [HN.out]; exact hlt) (by rw [HV.out, HT.out, Bool.eq_false_iff]; intro e; have e2 := (okSlot_iff _ _ _).1 e; rw [HSELF.out] at e2; exact absurd e2.2.2 (fun e9 => e9 ⟨i1, .inr i3⟩)))
                clear hvv h2 i1 i2 ho
                have HSE := Lib.hid (sectors_live (HL.out.live.grew HG8.out))
                have hb8 := HL.out.store.blk.grew HG8.out
                unfold storeC at hb8
                have s0 := hb8.cell 0
                have sl := hb8.lt
                clear hb8
                go_wp2_with fail
                refine HSE.out.mono ?_
                rintro e w10 ⟨rfl, rfl⟩
                go_wp2_with fail
                go_ret2
                rw [HI.out]
                exact ⟨_, rfl, OwnL.nil .., HL.out.grew HG8.out⟩
              · have hbn : decide ((D.st.length : Int) ≤ u32 p) = false := decide_eq_false i3
                have hbn2 : ¬ u32 p ≥ (D.st.length : Int) := i3
                have HYES : Hid (okR t (u32 p) ∧ numS (t.extract 128 132) = v ∧ ¬ (32 < u32 p ∧ (u32 p < 131 ∨ (D.st.length : Int) ≤ u32 p))) := Lib.hid ⟨ho, by rw [h2, hvv], fun e9 => e9.2.elim i2 i3⟩
                clear hvv h2 i1 i2 ho
                have HSE := Lib.hid (sectors_live (HL.out.live.grew HG8.out))
                have hb8 := HL.out.store.blk.grew HG8.out
                unfold storeC at hb8
                have s0 := hb8.cell 0
                have sl := hb8.lt
                clear hb8
                go_wp2_with fail
                refine HSE.out.mono ?_
                rintro e w10 ⟨rfl, rfl⟩
                have hgs : W.heap.size ≤ w8.heap.size := Nat.le_trans HL.out.turned.size HG8.out.size
                have hcz : (catB (slotsD D k)).size ≤ 13580 := by rw [slotsD_size HL.out.live.ok (by have := HLEN.out; omega) k (by omega)]; omega
                have hel := entsD_len D k
                have HOK : Hid (okSlot D.st.length v (slotI D k) = true) := Lib.hid (by rw [HT.out, okSlot_iff, HSELF.out]; exact HYES.out)
                have HSS := Lib.hid (slotsD_succ D k)
                have HES := Lib.hid (entsD_succ D k)
                rw [HT.out] at HSS HES
                rw [HSELF.out] at HES
                have HCS : Hid (catB (slotsD D k ++ [t]) = catB (slotsD D k) ++ t) := Lib.hid (catB_snoc _ _)
                have HOW8 := Lib.hid (HOWN.out.grew HG8.out)
                go_wp2_with (at_builtin; refine wpList_push2 rfl _ _ 102 rfl W.heap.size 101 2 24 (.agg #[.int .i64 0, .string ⟨#[]⟩]) Try.underlying102 info_ent rfl (by decide) (w8.alloc (.cells #[.int .i64 (u32 p), .string t] 101)) u10 ((entsD D k).map entC) [.int .i64 (u32 p), .string t] rfl rfl (HOW8.out.alloc _) w8.heap.size (by rfl) (Blk.new _ _ _ rfl) rfl (by rw [List.length_map]; omega) (by rw [List.length_map]; omega) (by simp; omega) k (by rw [List.length_map]; omega) ?_)
                intro g9 cap9 w9 hown9 hgb9 _ _
                have hg9 : Grew W w9 → True := fun _ => trivial
                have hl9 := looked_own HH.out (HL.out.grew (HG8.out.alloc (.cells #[.int .i64 (u32 p), .string t] 101))) hgb9 (HOW8.out.row_ge)
                have HOWN9 := Lib.hid hown9
                have HL9 := Lib.hid hl9
                clear hown9 hgb9 hl9 hg9
                go_wp2_with fail
                go_roundg (n - (k + 1))
                case measure => rw [HGK.out]; omega
                case rel => exact ⟨k + 1, by omega, by omega, by go_num, by rw [HES.out, List.map_append]; exact HOWN9.out, by rw [HSS.out, HCS.out], HL9.out, fun j hj => by rcases Nat.lt_or_ge j k with hjk | hjk; exact HSL.out j hjk; rw [show j = k from by omega]; exact HOK.out⟩
          · have hb32 : decide (32 < u32 p) = false := decide_eq_false i1
            have HYES : Hid (okR t (u32 p) ∧ numS (t.extract 128 132) = v ∧ ¬ (32 < u32 p ∧ (u32 p < 131 ∨ (D.st.length : Int) ≤ u32 p))) := Lib.hid ⟨ho, by rw [h2, hvv], fun e9 => i1 e9.1⟩
            clear hvv h2 i1 ho
            have hgs : W.heap.size ≤ w8.heap.size := Nat.le_trans HL.out.turned.size HG8.out.size
            have hcz : (catB (slotsD D k)).size ≤ 13580 := by rw [slotsD_size HL.out.live.ok (by have := HLEN.out; omega) k (by omega)]; omega
            have hel := entsD_len D k
            have HOK : Hid (okSlot D.st.length v (slotI D k) = true) := Lib.hid (by rw [HT.out, okSlot_iff, HSELF.out]; exact HYES.out)
            have HSS := Lib.hid (slotsD_succ D k)
            have HES := Lib.hid (entsD_succ D k)
            rw [HT.out] at HSS HES
            rw [HSELF.out] at HES
            have HCS : Hid (catB (slotsD D k ++ [t]) = catB (slotsD D k) ++ t) := Lib.hid (catB_snoc _ _)
            have HOW8 := Lib.hid (HOWN.out.grew HG8.out)
            go_wp2_with (at_builtin; refine wpList_push2 rfl _ _ 102 rfl W.heap.size 101 2 24 (.agg #[.int .i64 0, .string ⟨#[]⟩]) Try.underlying102 info_ent rfl (by decide) (w8.alloc (.cells #[.int .i64 (u32 p), .string t] 101)) u10 ((entsD D k).map entC) [.int .i64 (u32 p), .string t] rfl rfl (HOW8.out.alloc _) w8.heap.size (by rfl) (Blk.new _ _ _ rfl) rfl (by rw [List.length_map]; omega) (by rw [List.length_map]; omega) (by simp; omega) k (by rw [List.length_map]; omega) ?_)
            intro g9 cap9 w9 hown9 hgb9 _ _
            have hg9 : Grew W w9 → True := fun _ => trivial
            have hl9 := looked_own HH.out (HL.out.grew (HG8.out.alloc (.cells #[.int .i64 (u32 p), .string t] 101))) hgb9 (HOW8.out.row_ge)
            have HOWN9 := Lib.hid hown9
            have HL9 := Lib.hid hl9
            clear hown9 hgb9 hl9 hg9
            go_wp2_with fail
            go_roundg (n - (k + 1))
            case measure => rw [HGK.out]; omega
            case rel => exact ⟨k + 1, by omega, by omega, by go_num, by rw [HES.out, List.map_append]; exact HOWN9.out, by rw [HSS.out, HCS.out], HL9.out, fun j hj => by rcases Nat.lt_or_ge j k with hjk | hjk; exact HSL.out j hjk; rw [show j = k from by omega]; exact HOK.out⟩
        · have hbv : (u32 uv != u32 (fld d 0)) = true := by rw [HV0.out, bne_iff_ne]; exact fun e => hvv (u32_inj e)
          have HI := Lib.hid (int_no2 (D := D) k (by rw [HN.out]; exact hlt) (by rw [HV.out, HT.out, Bool.eq_false_iff]; intro e; have e2 := (okSlot_iff _ _ _).1 e; rw [HSELF.out] at e2; exact hvv (h2.symm.trans e2.2.1)))
          clear hvv h2 ho
          go_wp2_with fail
          go_ret2
          rw [HI.out]
          exact ⟨_, rfl, OwnL.nil .., HL.out.grew HG8.out⟩
      · have h1 := HUU.out
        rw [unpackS_no t _ ho] at h1
        injection h1 with h1 h2
        injection h2 with h2 h3
        subst h1; subst h2; subst h3
        have HI := Lib.hid (int_no2 (D := D) k (by rw [HN.out]; exact hlt) (by rw [HV.out, HT.out, Bool.eq_false_iff]; intro e; have e2 := (okSlot_iff _ _ _).1 e; rw [HSELF.out] at e2; exact ho e2.1))
        clear ho
        go_wp2_with fail
        go_ret2
        rw [HI.out]
        exact ⟨_, rfl, OwnL.nil .., HL.out.grew HG8.out⟩
    · obtain rfl : k = n := by omega
      have hcz : (catB (slotsD D k)).size ≤ 13580 := by rw [slotsD_size HL.out.live.ok (by have := HLEN.out; omega) k (by omega)]; omega
      have HSU := Lib.hid (fun (w : World) => sum_any (catB (slotsD D k)) (by omega) w)
      obtain ⟨q, hq⟩ : ∃ q, sumS (catB (slotsD D k)) = q := ⟨_, rfl⟩
      rw [hq] at HSU
      have HSB : Hid (sumB D = decide (q = fld d 2)) := Lib.hid (by unfold sumB; rw [HN.out, HFS.out, hq])
      have qb := u32_bd q
      clear hq
      go_wp2_with fail
      refine (HSU.out _).mono ?_
      rintro e w11 ⟨rfl, g11⟩
      have HG11 := Lib.hid g11
      clear g11
      by_cases hqs : q = fld d 2
      · have hbq : (u32 q != u32 (fld d 2)) = false := by rw [hqs]; simp
        have HS3 : Hid (sumB D = true) := Lib.hid (by rw [HSB.out]; exact decide_eq_true hqs)
        clear hqs
        have htr := readR_ok HFF.out 0 (by have := HLEN.out; omega)
        obtain ⟨⟨td, tv, tk⟩, htd⟩ : ∃ r, topI D = r := ⟨_, rfl⟩
        rw [show rawOf (D.content 0) ((0 : Nat) : Int) = topI D from rfl, htd] at htr
        have HL11 := Lib.hid (HL.out.grew HG11.out)
        have HOWN11 := Lib.hid (HOWN.out.grew HG11.out)
        have HTR := Lib.hid (read_is (HH.out.after HL11.out) 0 (by unfold okI; omega) td tv tk 0 htr)
        have HTB : Hid (topB D = (!tk || (v == tv) || decide (v.toNat = tv.toNat + 1))) := Lib.hid (by unfold topB; rw [HV.out, htd])
        have HALL : Hid (topB D = true → intentL D = entsD D k) := Lib.hid (fun ht => by have := int_yes HH1.out (fun j hj => by rw [HV.out]; exact HSL.out j (by rw [← HN.out]; exact hj)) HS3.out ht; rw [HN.out] at this; exact this)
        have tvb := u32_bd tv
        clear htr htd
        go_wp2_with fail
        refine HTR.out.mono ?_
        rintro e w12 ⟨rfl, hl12⟩
        have HL13 := Lib.hid ((HL11.out.trans hl12).grew ((Grew.refl w12).alloc (.cells #[.string td, .int .u32 (u32 tv), .bool tk] 87)))
        have HOWN13 := Lib.hid ((HOWN11.out.kept hl12.turned (fun g hg e => by have := (HOWN11.out.own_ge hg).1; have := HH.out.store.lt.2; omega)).grew ((Grew.refl w12).alloc (.cells #[.string td, .int .u32 (u32 tv), .bool tk] 87)))
        clear hl12
        cases tk with
        | false =>
          have HI : Hid (intentL D = entsD D k) := Lib.hid (HALL.out (by rw [HTB.out]; rfl))
          go_wp2_with fail
          go_ret2
          rw [HI.out]
          exact ⟨_, rfl, HOWN13.out, HL13.out⟩
        | true =>
          by_cases hvt : v = tv
          · have hb1 : (u32 (fld d 0) != u32 tv) = false := by rw [HV0.out, hvt]; simp
            have HI : Hid (intentL D = entsD D k) := Lib.hid (HALL.out (by rw [HTB.out, hvt]; simp))
            clear hvt
            go_wp2_with fail
            go_ret2
            rw [HI.out]
            exact ⟨_, rfl, HOWN13.out, HL13.out⟩
          · have hb1 : (u32 (fld d 0) != u32 tv) = true := by rw [HV0.out, bne_iff_ne]; exact fun e => hvt (u32_inj e)
            by_cases hvs : v.toNat = tv.toNat + 1
            · have hb2 : (u32 (fld d 0) != u32 tv + 1) = false := by rw [HV0.out]; unfold u32; rw [hvs]; simp
              have HI : Hid (intentL D = entsD D k) := Lib.hid (HALL.out (by rw [HTB.out]; simp [hvs]))
              clear hvt hvs
              go_wp2_with fail
              go_ret2
              rw [HI.out]
              exact ⟨_, rfl, HOWN13.out, HL13.out⟩
            · have hb2 : (u32 (fld d 0) != u32 tv + 1) = true := by rw [HV0.out, bne_iff_ne]; unfold u32; omega
              have HI : Hid (intentL D = []) := Lib.hid (int_no4 (by rw [HTB.out]; simp [hvs, hvt]))
              clear hvt hvs
              go_wp2_with fail
              go_ret2
              rw [HI.out]
              exact ⟨_, rfl, OwnL.nil .., HL13.out⟩
      · have hbq : (u32 q != u32 (fld d 2)) = true := by rw [bne_iff_ne]; exact fun e => hqs (u32_inj e)
        have HI := Lib.hid (int_no3 (D := D) (by rw [HSB.out]; exact decide_eq_false hqs))
        clear hqs
        go_wp2_with fail
        go_ret2
        rw [HI.out]
        exact ⟨_, rfl, OwnL.nil .., HL.out.grew HG11.out⟩
end
end Go.Proofs.Ytbddelefglhaaaa
namespace Go.Proofs.Ytbddelefglhaaaa
set_option linter.unusedVariables false
set_option linter.unusedSimpArgs false
set_option linter.unusedSectionVars false
open Go.RowKit
attribute [local go_sem ↓] Go.wp_at_zero Go.wp_at_succ
def intR (D : Dev) : List (Int × ByteArray) × Int := if D.failed = true then ([], 10) else (intentL D, 0)
/-- The store has changed the device. -/
structure Done (w0 : World) (x s m : Nat) (sy ep : Int) (D' : Dev) (out : Nat → Prop) (W w' : World) : Prop where
  live : Live w0 x D' out w'
  store : StoreM w' s m x sy ep
  turned : Turned (fun k => (w0.heap.size ≤ k ∧ ¬ out k) ∨ k = m) W w'
theorem Looked.done {w0 : World} {x s m : Nat} {sy ep : Int} {D : Dev} {out : Nat → Prop} {W w' : World} (h : Looked w0 x s m sy ep D out W w') : Done w0 x s m sy ep D out W w' := ⟨h.live, h.store, h.turned.mono fun k _ hk => .inr hk⟩
theorem Done.look {w0 : World} {x s m : Nat} {sy ep : Int} {D : Dev} {out : Nat → Prop} {W w1 w2 : World} (h : Done w0 x s m sy ep D out W w1) (k : Looked w0 x s m sy ep D out w1 w2) : Done w0 x s m sy ep D out W w2 := ⟨k.live, k.store, h.turned.trans (k.turned.mono fun _ _ hk => .inr hk)⟩
theorem Done.grew {w0 : World} {x s m : Nat} {sy ep : Int} {D : Dev} {out : Nat → Prop} {W w1 w2 : World} (h : Done w0 x s m sy ep D out W w1) (hg : Grew w1 w2) : Done w0 x s m sy ep D out W w2 := ⟨h.live.grew hg, h.store.grew hg, h.turned.trans (hg.turned _)⟩
theorem Held.done {w0 : World} {x s m : Nat} {sy ep : Int} {D D' : Dev} {out : Nat → Prop} {W w' : World} (h : Held w0 x s m sy ep D out W) (hd : Done w0 x s m sy ep D' out W w') : Held w0 x s m sy ep D' out w' := ⟨hd.live, hd.store, h.os, h.om, h.m0⟩
theorem Looked.beside {w0 : World} {x s m : Nat} {sy ep : Int} {D D' : Dev} {out : Nat → Prop} {W w1 w2 : World} (h0 : Held w0 x s m sy ep D out W) (h : Looked w0 x s m sy ep D out W w1) (hl : Live w0 x D' out w2) (hB : Beside w0 out w1 w2) : Done w0 x s m sy ep D' out W w2 :=
  ⟨hl, h.store.kept hB (fun hk => hk.2 h0.os) (fun hk => hk.2 h0.om), (h.turned.mono fun _ _ hk => .inr hk).trans (hB.mono fun _ _ hk => .inl hk)⟩
theorem intentL_len (D : Dev) : (intentL D).length ≤ 97 := by
  unfold intentL
  split
  · rename_i h
    unfold intentB headB' at h
    simp only [Bool.and_eq_true, decide_eq_true_eq] at h
    rw [List.length_map]
    unfold slotsD
    rw [List.length_map, List.length_range]
    exact h.1.1.2.2
  · exact Nat.zero_le _
theorem intentL_size {D : Dev} (h : D.Ok) (hl : 131 ≤ D.st.length) : ∀ e ∈ intentL D, e.2.size = 140 := by
  have hn := intentL_len D
  unfold intentL at hn ⊢
  split at hn
  · rename_i hb
    rw [if_pos hb]
    intro e he
    obtain ⟨s, hs, rfl⟩ := List.mem_map.1 he
    rw [List.length_map] at hn
    unfold slotsD at hs hn
    rw [List.length_map, List.length_range] at hn
    obtain ⟨j, hj, rfl⟩ := List.mem_map.1 hs
    have := List.mem_range.1 hj
    exact content_size h (by omega)
  · rename_i hb
    rw [if_neg hb]
    intro e he
    cases he
theorem finD_pend (D : Dev) (sy ep : Int) : (finD D sy ep).1.pend.length ≤ D.pend.length + 100 := by
  have hn := intentL_len D
  have hr := runS_pend sy ep (complS (intentL D)) D
  have hc : (complS (intentL D)).length = (intentL D).length + 3 := by unfold complS; rw [List.length_append, List.length_map]; rfl
  unfold finD
  split
  · show D.pend.length ≤ _; omega
  split
  · show D.pend.length ≤ _; omega
  · show (runS sy ep (complS (intentL D)) D).1.pend.length ≤ _; omega
section
variable {w0 : World} {x s m : Nat} {sy ep : Int} {D : Dev} {out : Nat → Prop} {W : World} (h : Held w0 x s m sy ep D out W) (hlen : 132 ≤ D.st.length)
include h hlen
theorem intent_any : Calls Try.prog 78 #[ptrV s] W (IntP w0 x s m sy ep D out W (intR D)) := by
  unfold intR
  cases hf : D.failed with
  | true => rw [if_pos rfl]; exact intent_failed h hlen hf
  | false =>
    rw [if_neg (by simp)]
    obtain ⟨⟨d, v, k⟩, hd⟩ : ∃ r, headI D = r := ⟨_, rfl⟩
    cases k with
    | false => exact intent_shut h hlen hf (by rw [hd])
    | true =>
      by_cases hv : fld d 0 = v
      · by_cases h1 : cntI D < 1
        · exact intent_few h hlen hf d v hd hv h1
        · by_cases h2 : 97 < cntI D
          · exact intent_many h hlen hf d v hd hv h2
          · by_cases hz : d.extract 12 128 = zeroS 116
            · exact intent_slots h hlen hf d v hd hv ⟨by omega, by omega⟩ hz
            · exact intent_zeros h hlen hf d v hd hv ⟨by omega, by omega⟩ hz
      · exact intent_ver h hlen hf d v hd hv
set_option maxRecDepth 100000 in
set_option maxHeartbeats 2000000 in
theorem finish_any (hp : D.pend.length ≤ 980000) (D' : Dev) (b : Bool) (er : Int) (hr : finD D sy ep = (D', b, er)) : Calls Try.prog 50 #[ptrV s] W fun e w' => e = .returned (.tuple #[.bool b, .int .i64 er]) ∧ Done w0 x s m sy ep D' out W w' := by
  have HI := Lib.hid (intent_any h hlen)
  have HH := Lib.hid h
  have hsz := intentL_size h.live.ok (by omega)
  have hln := intentL_len D
  unfold finD at hr
  cases hf : D.failed with
  | true =>
    rw [if_pos hf] at hr
    injection hr with h1 h2
    injection h2 with h2 h3
    subst h1; subst h2; subst h3
    have HIR : Hid (intR D = ([], 10)) := Lib.hid (if_pos hf)
    rw [HIR.out] at HI
    clear h hlen hsz hln hf
    go_enter Try.func50, Try.ntmps50
    go_wp2_with fail
    refine HI.out.mono ?_
    rintro e w1 ⟨v, rfl, hown, hl⟩
    have HL := Lib.hid hl
    clear hown hl
    go_wp2_with fail
    go_ret2
    exact ⟨rfl, HL.out.done⟩
  | false =>
    rw [if_neg (by rw [hf]; simp)] at hr
    have HIR : Hid (intR D = (intentL D, 0)) := Lib.hid (if_neg (by rw [hf]; simp))
    rw [HIR.out] at HI
    by_cases h0 : intentL D = []
    · rw [if_pos h0] at hr
      injection hr with h1 h2
      injection h2 with h2 h3
      subst h1; subst h2; subst h3
      rw [h0] at HI
      clear h hlen hsz hln hf h0
      go_enter Try.func50, Try.ntmps50
      go_wp2_with fail
      refine HI.out.mono ?_
      rintro e w1 ⟨v, rfl, hown, hl⟩
      obtain ⟨A, c, rfl, _, _, _⟩ := hown.listAt
      have HL := Lib.hid hl
      clear hown hl
      go_wp2_with fail
      go_ret2
      exact ⟨rfl, HL.out.done⟩
    · rw [if_neg h0] at hr
      injection hr with h1 h2
      injection h2 with h2 h3
      have hpos : 0 < (intentL D).length := List.length_pos_iff.2 h0
      obtain ⟨L, hL⟩ : ∃ L, intentL D = L := ⟨_, rfl⟩
      rw [hL] at HI h1 h2 h3 hsz hln hpos
      obtain ⟨⟨E, q⟩, hq⟩ : ∃ r, runS sy ep (complS L) D = r := ⟨_, rfl⟩
      rw [hq] at h1 h2 h3
      subst h1; subst h2; subst h3
      have HC := Lib.hid (fun (w1 : World) (hl : Looked w0 x s m sy ep D out W w1) => complete_any hl.live hl.store.blk h.os hp L (by omega) (fun e he => by rw [hsz e he]; omega))
      rw [hq] at HC
      clear h hlen hsz hf h0 hL hq
      have hl0 : ((L.length : Int) == 0) = false := by rw [beq_eq_false_iff_ne]; omega
      go_enter Try.func50, Try.ntmps50
      go_wp2_with fail
      refine HI.out.mono ?_
      rintro e w1 ⟨v, rfl, hown, hl⟩
      obtain ⟨A, c, rfl, _, _, hla⟩ := hown.listAt
      have HL := Lib.hid hl
      have HCC := Lib.hid (HC.out w1 hl A c hla)
      clear hown hl hla HC
      go_wp2_with fail
      refine HCC.out.mono ?_
      rintro e w2 ⟨rfl, hl2, hB2⟩
      have HD := Lib.hid (HL.out.beside HH.out hl2 hB2)
      clear hl2 hB2
      by_cases hq0 : q = 0
      · subst hq0
        go_wp2_with fail
        go_ret2
        exact ⟨rfl, HD.out⟩
      · have hne : (q != 0) = true := by rw [bne_iff_ne]; exact hq0
        have hne2 : (q == 0) = false := by rw [beq_eq_false_iff_ne]; exact hq0
        clear hq0
        go_wp2_with fail
        go_ret2
        rw [hne2]
        exact ⟨rfl, HD.out⟩
end
end Go.Proofs.Ytbddelefglhaaaa
namespace Go.Proofs.Ytbddelefglhaaaa
set_option linter.unusedVariables false
set_option linter.unusedSimpArgs false
set_option linter.unusedSectionVars false
open Go.RowKit
attribute [local go_sem ↓] Go.wp_at_zero Go.wp_at_succ
theorem foldEnd_len (p : Wr → Bool) (sv : Nat → Nat) (l : List Wr) : ∀ s : Dev × Nat, (l.foldl (endStep p sv) s).1.st.length = s.1.st.length ∧ (l.foldl (endStep p sv) s).1.failed = s.1.failed := by
  induction l with
  | nil => intro s; exact ⟨rfl, rfl⟩
  | cons r l ih =>
    intro s
    rw [List.foldl_cons]
    have h := ih (endStep p sv s r)
    have e : (endStep p sv s r).1.st.length = s.1.st.length ∧ (endStep p sv s r).1.failed = s.1.failed := by
      unfold endStep
      split
      · exact ⟨changeD_len .., changeD_failed ..⟩
      · exact ⟨rfl, rfl⟩
    exact ⟨h.1.trans e.1, h.2.trans e.2⟩
theorem finishD_len (D : Dev) (p : Wr → Bool) (sv : Nat → Nat) : (finishD D p sv).st.length = D.st.length ∧ (finishD D p sv).failed = D.failed := foldEnd_len p sv D.pend (D, 0)
theorem useD_len (D : Dev) : (useD D).1.st.length = D.st.length ∧ ((useD D).2 = false → (useD D).1.failed = D.failed) := by
  unfold useD
  split
  · exact ⟨rfl, fun _ => rfl⟩
  · exact ⟨rfl, fun _ => rfl⟩
  · exact ⟨(finishD_len D _ _).1, fun h => by cases h⟩
theorem admitD_len (D : Dev) (sy ep : Int) : (admitD D sy ep).1.st.length = D.st.length ∧ ((admitD D sy ep).2 = 0 → D.failed = false ∧ (admitD D sy ep).1.failed = false) := by
  have hu := useD_len D
  unfold admitD
  cases hf : D.failed with
  | true => rw [if_pos rfl]; exact ⟨rfl, fun h => by cases h⟩
  | false =>
    rw [if_neg (by simp)]
    split
    · exact ⟨rfl, fun h => by cases h⟩
    split
    · exact ⟨hu.1, fun h => by cases h⟩
    · rename_i h2
      exact ⟨hu.1, fun _ => ⟨rfl, (hu.2 (by simpa using h2)).trans hf⟩⟩
theorem stD_len (D : Dev) (sy ep : Int) (t : St) : (stD D sy ep t).1.st.length = D.st.length ∧ ((stD D sy ep t).2 = 0 → (stD D sy ep t).1.failed = false) := by
  have ha := admitD_len D sy ep
  cases t with
  | put i s =>
    show (writeD D sy ep i s).1.st.length = _ ∧ ((writeD D sy ep i s).2 = 0 → (writeD D sy ep i s).1.failed = false)
    unfold writeD
    split
    · exact ⟨rfl, fun h => by cases h⟩
    split
    · exact ⟨rfl, fun h => by cases h⟩
    split
    · rename_i h; exact ⟨ha.1, fun e => absurd e h⟩
    · rename_i h; exact ⟨ha.1, fun _ => (ha.2 (by simpa using h)).2⟩
  | sync =>
    show (syncD D sy ep).1.st.length = _ ∧ ((syncD D sy ep).2 = 0 → (syncD D sy ep).1.failed = false)
    unfold syncD
    split
    · exact ⟨rfl, fun h => by cases h⟩
    split
    · rename_i h; exact ⟨ha.1, fun e => absurd e h⟩
    · rename_i h
      have hf := finishD_len (admitD D sy ep).1 (ofSys sy) (fun _ => 140)
      exact ⟨hf.1.trans ha.1, fun _ => hf.2.trans (ha.2 (by simpa using h)).2⟩
theorem runS_len (sy ep : Int) (l : List St) : ∀ D, (runS sy ep l D).1.st.length = D.st.length ∧ (D.failed = false → (runS sy ep l D).2 = 0 → (runS sy ep l D).1.failed = false) := by
  induction l with
  | nil => intro D; exact ⟨rfl, fun h _ => h⟩
  | cons t l ih =>
    intro D
    have h := stD_len D sy ep t
    show (if (stD D sy ep t).2 = 0 then runS sy ep l (stD D sy ep t).1 else stD D sy ep t).1.st.length = _ ∧ (_ → (if (stD D sy ep t).2 = 0 then runS sy ep l (stD D sy ep t).1 else stD D sy ep t).2 = 0 → (if (stD D sy ep t).2 = 0 then runS sy ep l (stD D sy ep t).1 else stD D sy ep t).1.failed = false)
    split
    · rename_i h0
      have k := ih (stD D sy ep t).1
      exact ⟨k.1.trans h.1, fun _ => k.2 (h.2 h0)⟩
    · rename_i h0
      exact ⟨h.1, fun _ e => absurd e h0⟩
theorem finD_len (D : Dev) (sy ep : Int) : (finD D sy ep).1.st.length = D.st.length ∧ ((finD D sy ep).2.2 = 0 → (finD D sy ep).1.failed = false) := by
  have hr := runS_len sy ep (complS (intentL D)) D
  unfold finD
  cases hf : D.failed with
  | true => rw [if_pos rfl]; exact ⟨rfl, fun h => by cases h⟩
  | false =>
    rw [if_neg (by simp)]
    split
    · exact ⟨rfl, fun _ => hf⟩
    · exact ⟨hr.1, fun h => hr.2 hf h⟩
theorem topD_is {D : Dev} (hf : D.failed = false) (hl : 1 ≤ D.st.length) : topD D = (topI D, if (topI D).ok = true then 0 else 11) := by
  unfold topD
  rw [show readR D 0 = (topI D, 0) from readR_ok hf 0 (by omega)]
  rfl
section
variable {w0 : World} {x s m : Nat} {sy ep : Int} {D : Dev} {out : Nat → Prop} {W : World}
set_option maxRecDepth 100000 in
set_option maxHeartbeats 2000000 in
theorem number_any' (h : Held w0 x s m sy ep D out W) (hlen : 132 ≤ D.st.length) (hp : D.pend.length ≤ 980000) (D' : Dev) (n er : Int) (hr : numberP D sy ep = (D', n, er)) : Calls Try.prog 20 #[ptrV s] W fun e w' => e = .returned (.tuple #[.int .i64 n, .int .i64 er]) ∧ Done w0 x s m sy ep D' out W w' := by
  obtain ⟨⟨E, b, f⟩, hE⟩ : ∃ r, finD D sy ep = r := ⟨_, rfl⟩
  have HF := Lib.hid (finish_any h hlen hp E b f hE)
  have hl := finD_len D sy ep
  unfold numberP at hr
  rw [hE] at hr hl
  have HH := Lib.hid h
  by_cases h0 : f = 0
  · rw [if_neg (by simpa using h0)] at hr
    have hEf := hl.2 h0
    have hEl : E.st.length = D.st.length := hl.1
    have htd := topD_is hEf (by rw [hEl]; omega)
    subst h0
    obtain ⟨⟨td, tv, tk⟩, ht⟩ : ∃ r, topI E = r := ⟨_, rfl⟩
    rw [ht] at htd hr
    have HTD := Lib.hid htd
    have tvb := u32_bd tv
    cases tk with
    | false =>
      rw [if_pos rfl] at hr
      injection hr with h1 h2
      injection h2 with h2 h3
      subst h1; subst h2; subst h3
      clear h hlen hp hE hl hEf hEl htd ht
      go_enter Try.func20, Try.ntmps20
      go_wp2_with fail
      refine HF.out.mono ?_
      rintro e w1 ⟨rfl, hd⟩
      have HT := Lib.hid (top_any (HH.out.done hd))
      rw [HTD.out] at HT
      have HD := Lib.hid hd
      clear hd
      go_wp2_with fail
      refine HT.out.mono ?_
      rintro e w2 ⟨rfl, hl2⟩
      unfold rawV
      have HL2 := Lib.hid hl2
      clear hl2
      go_wp2_with fail
      go_ret2
      exact ⟨rfl, (HD.out.look HL2.out).grew ((Grew.refl _).alloc _)⟩
    | true =>
      rw [if_neg (by simp)] at hr
      injection hr with h1 h2
      injection h2 with h2 h3
      subst h1; subst h2; subst h3
      clear h hlen hp hE hl hEf hEl htd ht
      go_enter Try.func20, Try.ntmps20
      go_wp2_with fail
      refine HF.out.mono ?_
      rintro e w1 ⟨rfl, hd⟩
      have HT := Lib.hid (top_any (HH.out.done hd))
      rw [HTD.out] at HT
      have HD := Lib.hid hd
      clear hd
      go_wp2_with fail
      refine HT.out.mono ?_
      rintro e w2 ⟨rfl, hl2⟩
      unfold rawV
      have HL2 := Lib.hid hl2
      clear hl2
      go_wp2_with fail
      go_ret2
      exact ⟨rfl, (HD.out.look HL2.out).grew ((Grew.refl _).alloc _)⟩
  · rw [if_pos (by simpa using h0)] at hr
    injection hr with h1 h2
    injection h2 with h2 h3
    subst h1; subst h2; subst h3
    have hne : (f != 0) = true := by rw [bne_iff_ne]; exact h0
    clear h hlen hp hE hl h0
    go_enter Try.func20, Try.ntmps20
    go_wp2_with fail
    refine HF.out.mono ?_
    rintro e w1 ⟨rfl, hd⟩
    have HD := Lib.hid hd
    clear hd
    go_wp2_with fail
    go_ret2
    exact ⟨rfl, HD.out⟩
/-- A store that was opened. -/
def OpenR (w0 : World) (x : Nat) (sy ep : Int) (D' : Dev) (out : Nat → Prop) (W : World) (e : Ending) (w' : World) : Prop :=
  ∃ s m, e = .returned (.tuple #[ptrV s, .int .i64 0]) ∧ Live w0 x D' (fun k => out k ∨ k = s ∨ k = m) w' ∧ StoreM w' s m x sy ep ∧ (W.heap.size ≤ s ∧ W.heap.size ≤ m) ∧ Beside w0 out W w'
set_option maxRecDepth 100000 in
set_option maxHeartbeats 2000000 in
theorem open_any' (h : Live w0 x D out W) (hlen : 132 ≤ D.st.length ∧ D.st.length ≤ 1155) (hs : 1 ≤ sy ∧ sy ≤ 4) (he : 0 ≤ ep ∧ ep ≤ 1099511627776) (hp : D.pend.length ≤ 980000) (D' : Dev) (hr : openP D sy ep = (D', 0)) :
    Calls Try.prog 49 #[ptrV x, .agg #[.int .i64 sy, .int .i64 ep]] W (OpenR w0 x sy ep D' out W) := by
  have HFT := Lib.hid (fun (w1 : World) (hg : Grew W w1) => fits_any (h.grew hg) sy ep hlen hs he)
  have HNS := Lib.hid (fun (w1 : World) (hg : Grew W w1) => newStore_any (h.grew hg) sy ep)
  obtain ⟨⟨E, b, f⟩, hE⟩ : ∃ r, finD D sy ep = r := ⟨_, rfl⟩
  have HFI := Lib.hid (fun (s m : Nat) (out2 : Nat → Prop) (w1 : World) (h2 : Held w0 x s m sy ep D out2 w1) => finish_any h2 hlen.1 hp E b f hE)
  have hl := finD_len D sy ep
  have hfit : fitsP D sy ep = true := by unfold fitsP plainW; simp; omega
  unfold openP at hr
  rw [hE, if_neg (by rw [hfit]; simp)] at hr
  rw [hE] at hl
  have h0 : f = 0 := by
    rcases Decidable.em (f = 0) with h0 | h0
    · exact h0
    · rw [if_pos (by simpa using h0)] at hr
      injection hr with _ h2
  rw [if_neg (by simpa using h0)] at hr
  subst h0
  have hEf := hl.2 rfl
  have hEl : E.st.length = D.st.length := hl.1
  have htd := topD_is hEf (by rw [hEl]; omega)
  obtain ⟨⟨td, tv, tk⟩, ht⟩ : ∃ r, topI E = r := ⟨_, rfl⟩
  rw [ht] at htd hr
  have hk : tk = true := by
    cases tk with
    | true => rfl
    | false => rw [if_pos rfl] at hr; injection hr with _ h2; cases h2
  subst hk
  rw [if_neg (by simp)] at hr
  injection hr with h1 _
  subst h1
  have HTD := Lib.hid htd
  have HL := Lib.hid h
  have hbase := h.base.size
  have hg0 : Grew W (W.alloc (.cells #[.int .i64 sy, .int .i64 ep] 50)) := (Grew.refl W).alloc _
  clear h hlen hs he hp hE hl hfit hEf hEl htd ht
  go_enter Try.func49, Try.ntmps49
  go_wp2_with fail
  refine (HFT.out _ hg0).mono ?_
  rintro e w1 ⟨rfl, g1⟩
  have hg1 : Grew W w1 := hg0.trans g1
  have hb1 := (Blk.new W 50 #[.int .i64 sy, .int .i64 ep] rfl).grew g1
  have c0 := hb1.cell 0
  have c1 := hb1.cell 1
  have cl := hb1.lt
  have HG1 := Lib.hid hg1
  clear hg1 hb1 g1 hg0
  go_wp2_with fail
  refine (HNS.out _ HG1.out).mono ?_
  rintro e w2 ⟨s, m, rfl, hst, g2, hs2, hm2⟩
  have hg2 : Grew W w2 := HG1.out.trans g2
  have hs3 : W.heap.size ≤ s := Nat.le_trans HG1.out.size hs2
  have hm3 : W.heap.size ≤ m := Nat.le_trans HG1.out.size hm2
  have hlt := hst.lt
  have hl2 : Live w0 x D (fun k => out k ∨ k = s ∨ k = m) w2 := (HL.out.more hg2).few (fun k hk => by
    rcases hk with hk | hk | hk
    · exact .inl hk
    · exact .inr ⟨by omega, by omega⟩
    · exact .inr ⟨by omega, by omega⟩)
  have hh2 : Held w0 x s m sy ep D (fun k => out k ∨ k = s ∨ k = m) w2 := ⟨hl2, hst, .inr (.inl rfl), .inr (.inr rfl), by omega⟩
  have HH2 := Lib.hid hh2
  have HG2 := Lib.hid hg2
  clear hst g2 hs2 hm2 hlt hl2 hh2 hg2 c0 c1 cl
  go_wp2_with fail
  refine (HFI.out s m _ w2 HH2.out).mono ?_
  rintro e w3 ⟨rfl, hd⟩
  have HT := Lib.hid (top_any (HH2.out.done hd))
  rw [HTD.out] at HT
  have HD := Lib.hid hd
  clear hd
  go_wp2_with fail
  refine HT.out.mono ?_
  rintro e w4 ⟨rfl, hl4⟩
  unfold rawV
  have HL4 := Lib.hid hl4
  clear hl4
  go_wp2_with fail
  go_ret2
  have hdn := (HD.out.look HL4.out).grew ((Grew.refl w4).alloc (.cells #[.string td, .int .u32 (u32 tv), .bool true] 87))
  exact ⟨s, m, rfl, hdn.live, hdn.store, ⟨hs3, hm3⟩, (HG2.out.turned _).next (hdn.turned) (fun k hk hS => by
    rcases hS with hS | hS
    · exact ⟨hS.1, fun h9 => hS.2 (.inl h9)⟩
    · exact absurd hk (by omega))⟩
end
end Go.Proofs.Ytbddelefglhaaaa
namespace Go.Proofs.Ytbddelefglhaaaa
set_option linter.unusedVariables false
set_option linter.unusedSimpArgs false
set_option linter.unusedSectionVars false
open Go.RowKit
attribute [local go_sem ↓] Go.wp_at_zero Go.wp_at_succ
def F1 (k : Nat) : List (Int × ByteArray) := (List.range k).map fun i : Nat => (131 + (i : Int), packS emptyS (nv 1) (131 + (i : Int)))
def F2 (n k : Nat) : List (Int × ByteArray) := (List.range k).map fun j : Nat => (1 + (j : Int), packS (vbytes (fmtMap n j)) (nv 1) (1 + (j : Int)))
theorem F1_succ (k : Nat) : F1 (k + 1) = F1 k ++ [(131 + (k : Int), packS emptyS (nv 1) (131 + (k : Int)))] := by unfold F1; rw [List.range_succ, List.map_append]; rfl
theorem F2_succ (n k : Nat) : F2 n (k + 1) = F2 n k ++ [(1 + (k : Int), packS (vbytes (fmtMap n k)) (nv 1) (1 + (k : Int)))] := by unfold F2; rw [List.range_succ, List.map_append]; rfl
def topF : List (Int × ByteArray) := [(0, packS (vbytes ((List.range 32).map fun _ => nv 1)) (nv 1) 0)]
def fmtF (sy ep : Int) (n : Nat) : List (Dev → Dev × Int) := (F1 n ++ F2 n 32 ++ topF).map (fun e D => writeD D sy ep e.1 e.2) ++ [fun D => writeD D sy ep 33 blankR, fun D => syncD D sy ep]
theorem fmtF_run (sy ep : Int) (n : Nat) (D : Dev) : runF (fmtF sy ep n) D = runS sy ep (puts (fmtW n) ++ [.sync]) D := by
  rw [← runF_S]
  congr 1
  unfold fmtF fmtW puts F1 F2 topF
  simp only [List.map_append, List.map_map, List.map_cons, List.map_nil, List.append_assoc, List.cons_append, List.nil_append]
  congr 1
theorem PutsAt.ver {W W' : World} {lo s g : Nat} {L : List (Int × ByteArray)} {vs : List Value} {cs : Array Value} (h : PutsAt W lo s L vs) (hb : Blk W g 94 cs) (ht : Turned (fun q => q = g) W W') : PutsAt W' lo s L vs := by
  refine ⟨h.1, fun k e v h1 h2 => ?_⟩
  obtain ⟨a, b, c, rfl, la, lb, lc, ha, hbb, hc⟩ := h.2 k e v h1 h2
  exact ⟨a, b, c, rfl, la, lb, lc, ha.turned ht (Blk.ne_ ha hb (by decide)), hbb.turned ht (Blk.ne_ hbb hb (by decide)), hc.turned ht (Blk.ne_ hc hb (by decide))⟩
theorem OwnL.ver {W W' : World} {base g : Nat} {v : Value} {rows : List (List Value)} {cs : Array Value} (h : OwnL W base 104 1 v rows) (hb : Blk W g 94 cs) (ht : Turned (fun q => q = g) W W') : OwnL W' base 104 1 v rows :=
  h.kept ht (fun q hq e => h.ne_blk hb (by decide) (by rw [hq, e]))
theorem one_u32 : u32 (nv 1) = 1 := by decide
theorem okI_small (i : Int) (h : 0 ≤ i ∧ i ≤ 100000) : okI i := by unfold okI; omega
theorem pack_one (d : ByteArray) (i : Int) (w : World) (hd : d.size ≤ 1000000) (hi : 0 ≤ i ∧ i ≤ 100000) : Calls Try.prog 13 #[.string d, .int .u32 1, .int .i64 i] w fun e w' => e = .returned (.string (packS d (nv 1) i)) ∧ Grew w w' := by
  have h := pack_any d (nv 1) i w (by omega) (okI_small i hi)
  rw [one_u32] at h
  exact h
theorem ver_one (S : Nat → BitVec 32) (k : Nat) : (verArr S).setIfInBounds k (.int .u32 1) = verArr fun i => if i = k then nv 1 else S i := by
  rw [show (Value.int IntKind.u32 1) = .int .u32 (u32 (nv 1)) from by rw [one_u32], verArr_set]
theorem fmt_yes (n q j : Nat) (h : 32 * q + j < n) : (verArr fun p => if p < j then (if 32 * q + p < n then nv 1 else nv 0) else 0#32).setIfInBounds j (.int .u32 1) = verArr fun p => if p < j + 1 then (if 32 * q + p < n then nv 1 else nv 0) else 0#32 := by
  rw [ver_one]
  refine verArr_congr fun i _ => ?_
  rw [← ver_step (fun p => if 32 * q + p < n then nv 1 else nv 0) (fun _ => 0#32) j i]
  by_cases hij : i = j
  · subst hij; rw [if_pos rfl, if_pos rfl, if_pos h]
  · rw [if_neg hij, if_neg hij]
theorem fmt_no (n q j : Nat) (h : ¬ 32 * q + j < n) : (verArr fun p => if p < j then (if 32 * q + p < n then nv 1 else nv 0) else 0#32) = verArr fun p => if p < j + 1 then (if 32 * q + p < n then nv 1 else nv 0) else 0#32 := by
  refine verArr_congr fun i _ => ?_
  rw [← ver_step (fun p => if 32 * q + p < n then nv 1 else nv 0) (fun _ => 0#32) j i]
  by_cases hij : i = j
  · subst hij; rw [if_pos rfl, if_neg (by omega), if_neg h]; rfl
  · rw [if_neg hij]
theorem top_row (q : Nat) : (verArr fun j => if j < q then nv 1 else 0#32).setIfInBounds q (.int .u32 1) = verArr fun j => if j < q + 1 then nv 1 else 0#32 := by
  rw [ver_one]
  exact verArr_congr fun i _ => ver_step (fun _ => nv 1) (fun _ => 0#32) q i
/-- The last call of 'Format'. -/
theorem format_do {w0 : World} {x s m : Nat} {sy ep : Int} {D : Dev} {out : Nat → Prop} {W w9 : World} (hL : Live w0 x D out W) (hg : Grew W w9) (hst : StoreM w9 s m x sy ep) (hs : W.heap.size ≤ s) (hp : D.pend.length ≤ 900000) {base : Nat} (hbase : W.heap.size ≤ base) (n : Nat) (hn : n ≤ 1024) {vs : List Value} {F : Value} {v2 : Value}
    (hpa : PutsAt w9 base s (F1 n ++ F2 n 32 ++ topF) (vs ++ [F])) (hown : OwnL w9 base 104 1 v2 ((vs ++ [F, .func (.func 77) #[ptrV s] #[], .func (.func 61) #[ptrV s] #[]]).map fun v => [v])) :
    ∃ A2 n2 c2, v2 = .slice A2 n2 c2 ∧ Calls Try.prog 64 #[.slice A2 n2 c2] w9 fun e w' => e = .returned (.int .i64 (runS sy ep (puts (fmtW n) ++ [.sync]) D).2) ∧ Live w0 x (runS sy ep (puts (fmtW n) ++ [.sync]) D).1 out w' ∧ Beside w0 out W w' := by
  obtain ⟨A2, c2, hv2, _, _, hla⟩ := hown.listAt
  rw [List.length_map] at hv2
  have hvl := hpa.1
  have hfl : (F1 n ++ F2 n 32 ++ topF).length = n + 33 := by unfold F1 F2 topF; simp
  have hlen : (vs ++ [F, .func (.func 77) #[ptrV s] #[], .func (.func 61) #[ptrV s] #[]]).length = n + 35 := by
    rw [List.length_append] at hvl ⊢
    rw [hfl] at hvl
    simp at hvl ⊢
    omega
  refine ⟨A2, _, c2, hv2, ?_⟩
  have hlo : ∀ k, base ≤ k → k < w9.heap.size → (fun k => out k ∨ (W.heap.size ≤ k ∧ k < w9.heap.size)) k := fun k h1 h2 => .inr ⟨by omega, h2⟩
  have ho2 : (fun k => out k ∨ (W.heap.size ≤ k ∧ k < w9.heap.size)) s := .inr ⟨hs, hst.lt.1⟩
  have hsz : ∀ e ∈ F1 n ++ F2 n 32 ++ topF, e.2.size ≤ 9223372036854775807 := by
    intro e he
    have : e.2.size = 140 := by
      rcases List.mem_append.1 he with he | he
      · rcases List.mem_append.1 he with he | he
        · obtain ⟨i, _, rfl⟩ := List.mem_map.1 he; exact packS_size ..
        · obtain ⟨i, _, rfl⟩ := List.mem_map.1 he; exact packS_size ..
      · rw [List.mem_singleton.1 he]; exact packS_size ..
    omega
  have hw : WorksL w0 x (fun k => out k ∨ (W.heap.size ≤ k ∧ k < w9.heap.size)) w9 1 (fmtF sy ep n) (vs ++ [F, .func (.func 77) #[ptrV s] #[], .func (.func 61) #[ptrV s] #[]]) := by
    have := (WorksL.puts (w0 := w0) (x := x) hst.blk ho2 hlo hsz hpa).app (WorksL.cons (works_clear hst.blk ho2) (WorksL.cons ((works_sync hst.blk ho2).more (by omega)) (WorksL.nil ..)))
    rw [List.append_assoc vs] at this
    exact this
  refine (do_works (hL.more hg) 1 (fmtF sy ep n) _ hw (by omega) (by omega) A2 c2 hla (fun b off e => ?_)).mono ?_
  · rcases hown.form with ⟨_, h0⟩ | ⟨g, cap, e1, h1, h2, _⟩
    · have := congrArg List.length h0; rw [List.length_map, hlen, List.length_nil] at this; omega
    · rw [e1] at hv2
      injection hv2 with hv2 _ _
      rw [e] at hv2
      injection hv2 with hv2
      injection hv2 with hv2 _ _
      subst hv2
      exact .inr (.inr ⟨by omega, h2⟩)
  · rintro e w' ⟨he, h1, h2, _⟩
    rw [fmtF_run] at he h1
    exact ⟨he, h1.few (fun k hk => .inl hk), Beside.wide hg h2 (fun k hk => .inl hk)⟩
section
variable {w0 : World} {x : Nat} {sy ep : Int} {D : Dev} {out : Nat → Prop} {W : World}
set_option maxRecDepth 100000 in
set_option maxHeartbeats 4000000 in
theorem format_any (h : Live w0 x D out W) (hlen : 132 ≤ D.st.length ∧ D.st.length ≤ 1155) (hs : 1 ≤ sy ∧ sy ≤ 4) (he : 0 ≤ ep ∧ ep ≤ 1099511627776) (hp : D.pend.length ≤ 900000) :
    Calls Try.prog 48 #[ptrV x, .agg #[.int .i64 sy, .int .i64 ep]] W fun e w' => e = .returned (.int .i64 (formatP D sy ep).2) ∧ Live w0 x (formatP D sy ep).1 out w' ∧ Beside w0 out W w' := by
  have HFT := Lib.hid (fun (w1 : World) (hg : Grew W w1) => fits_any (h.grew hg) sy ep hlen hs he)
  have HNS := Lib.hid (fun (w1 : World) (hg : Grew W w1) => newStore_any (h.grew hg) sy ep)
  have HSE := Lib.hid (fun (w1 : World) (hg : Grew W w1) => sectors_live (h.grew hg))
  have hfit : fitsP D sy ep = true := by unfold fitsP plainW; simp; omega
  obtain ⟨n, hn⟩ : ∃ n : Nat, D.st.length - 131 = n := ⟨_, rfl⟩
  have hni : (D.st.length : Int) - 131 = (n : Int) := by omega
  have hnb : 1 ≤ n ∧ n ≤ 1024 := by omega
  have hli : (D.st.length : Int) ≤ 1155 := by omega
  have HFP : Hid (formatP D sy ep = runS sy ep (puts (fmtW n) ++ [.sync]) D) := Lib.hid (by unfold formatP; rw [if_neg (by rw [hfit]; simp), hn])
  have HL := Lib.hid h
  have HP := Lib.hid hp
  have hg0 : Grew W (W.alloc (.cells #[.int .i64 sy, .int .i64 ep] 50)) := (Grew.refl W).alloc _
  have hz := zero_ver
  have HPK := Lib.hid (fun (i : Int) (w : World) (hi : 0 ≤ i ∧ i ≤ 100000) => pack_one emptyS i w (by show 0 ≤ 1000000; omega) hi)
  clear h hlen hs he hp hfit hn
  go_enter Try.func48, Try.ntmps48
  go_wp2_with fail
  refine (HFT.out _ hg0).mono ?_
  rintro e w1 ⟨rfl, g1⟩
  have hg1 : Grew W w1 := hg0.trans g1
  have hb1 := (Blk.new W 50 #[.int .i64 sy, .int .i64 ep] rfl).grew g1
  have c0 := hb1.cell 0
  have c1 := hb1.cell 1
  have cl := hb1.lt
  have HG1 := Lib.hid hg1
  clear hg1 hb1 g1 hg0
  go_wp2_with fail
  refine (HNS.out _ HG1.out).mono ?_
  rintro e w2 ⟨s, m, rfl, hst, g2, hs2, hm2⟩
  have hg2 : Grew W w2 := HG1.out.trans g2
  have hs3 : W.heap.size ≤ s := Nat.le_trans HG1.out.size hs2
  have HST := Lib.hid hst
  have HG2 := Lib.hid hg2
  have HS3 := Lib.hid hs3
  clear hst g2 hs2 hm2 hg2 c0 c1 cl hs3
  go_wp2_with fail
  refine (HSE.out _ HG2.out).mono ?_
  rintro e w3 ⟨rfl, rfl⟩
  go_wp2_with fail
  go_loopg [7, 24] n (fun gk u i wr => ∃ (k : Nat) (vs : List Value), k ≤ n ∧ gk = n - k ∧ i = .int .i64 k ∧ OwnL wr w2.heap.size 104 1 u (vs.map fun v => [v]) ∧ PutsAt wr w2.heap.size s (F1 k) vs ∧ Grew w2 wr)
  case atStart => exact ⟨0, [], by omega, by omega, rfl, OwnL.nil .., PutsAt.nil .., Grew.refl _⟩
  case round =>
    obtain ⟨k, vs, hk, hgk, rfl, hown, hpa, hg⟩ := hrel
    have HGK := Lib.hid hgk
    have HOWN := Lib.hid hown
    have HPA := Lib.hid hpa
    have HG := Lib.hid hg
    clear hgk hown hpa hg
    by_cases hlt : k < n
    · have hki : (k : Int) < (n : Int) := by omega
      have HPP := Lib.hid (HPK.out (131 + (k : Int)) wr (by omega))
      go_wp2_with fail
      refine HPP.out.mono ?_
      rintro e wA ⟨rfl, gA⟩
      go_wp2_with fail
      refine (put_any _ _ _ _).mono ?_
      rintro e wB ⟨v, rfl, hput, gB⟩
      obtain ⟨caps, rfl⟩ := hput.form
      have hgB : Grew wr wB := gA.trans gB
      have hput1 : PutAt wB w2.heap.size s (131 + (k : Int)) (packS emptyS (nv 1) (131 + (k : Int))) (.func (.func 81) #[] caps) := hput.low (by have := HG.out.size; have := gA.size; omega)
      have HOWN1 := Lib.hid (HOWN.out.grew hgB)
      have HPA1 := Lib.hid ((HPA.out.grew hgB).snoc (e := (131 + (k : Int), packS emptyS (nv 1) (131 + (k : Int)))) hput1)
      have hvl := HPA.out.1
      have HGB := Lib.hid (HG.out.trans hgB)
      have hgs : w2.heap.size ≤ wB.heap.size := HGB.out.size
      have hlen : vs.length ≤ 1100 := by rw [hvl]; simp [F1, F2]; omega
      clear hput gA gB hgB hput1 hvl
      go_wp2_with (at_builtin; refine wpList_push2 rfl _ _ 103 rfl w2.heap.size 104 1 8 .nilFunc Try.underlying103 info_fun rfl (by decide) (wB.alloc (.cells #[.func (.func 81) #[] caps] 104)) u7 (vs.map fun v => [v]) [.func (.func 81) #[] caps] rfl rfl (HOWN1.out.alloc _) wB.heap.size (by rfl) (Blk.new _ _ _ rfl) rfl (by rw [List.length_map]; omega) (by rw [List.length_map]; omega) (by simp; omega) vs.length (by rw [List.length_map]) ?_)
      intro g9 cap9 wC hownC hgbC _ _
      have hgC : Grew w2 wC := (HGB.out.alloc _).own hgbC HOWN1.out.row_ge (Nat.le_refl _)
      have hpaC := (HPA1.out.grew ((Grew.refl wB).alloc (.cells #[.func (.func 81) #[] caps] 104))).own (HOWN1.out.alloc (.cells #[.func (.func 81) #[] caps] 104)) hgbC
      have HOWNC := Lib.hid hownC
      have HGC := Lib.hid hgC
      have HPAC := Lib.hid hpaC
      clear hownC hgbC hgC hpaC hgs hlen
      have HF1 := Lib.hid (F1_succ k)
      go_wp2_with fail
      go_roundg (n - (k + 1))
      case measure => rw [HGK.out]; omega
      case rel => exact ⟨k + 1, vs ++ [.func (.func 81) #[] caps], by omega, by omega, by go_num, by rw [List.map_append]; exact HOWNC.out, by rw [HF1.out]; exact HPAC.out, HGC.out⟩
    · obtain rfl : n = k := by omega
      have hgs2 : w2.heap.size ≤ wr.heap.size := HG.out.size
      obtain ⟨wa, hwa⟩ : ∃ wa : World, wa = wr := ⟨_, rfl⟩
      subst hwa
      clear hlt
      have hb9 : Blk (wa.alloc (.cells (verArr fun _ => 0#32) 94)) wa.heap.size 94 (verArr fun _ => 0#32) := Blk.new wa _ _ rfl
      have HB9 := Lib.hid hb9
      have hga : Grew wa (wa.alloc (.cells (verArr fun _ => 0#32) 94)) := (Grew.refl wa).alloc _
      have HOWNA := Lib.hid (HOWN.out.grew hga)
      have HPAA := Lib.hid (HPA.out.grew hga)
      have HGA := Lib.hid (HG.out.trans hga)
      clear hb9 hga
      go_wp2_with fail
      go_loopg [7, 38] 32 (fun gk u i wr => ∃ (q : Nat) (vs2 : List Value), q ≤ 32 ∧ gk = 32 - q ∧ i = .int .i64 q ∧ OwnL wr w2.heap.size 104 1 u (vs2.map fun v => [v]) ∧ PutsAt wr w2.heap.size s (F1 n ++ F2 n q) vs2 ∧ Blk wr wa.heap.size 94 (verArr fun j => if j < q then nv 1 else 0#32) ∧ Grew w2 wr)
      case atStart => exact ⟨0, vs, by omega, by omega, rfl, HOWNA.out, by rw [show F2 n 0 = [] from rfl, List.append_nil]; exact HPAA.out, by (apply Blk.conv; (· exact HB9.out); (· exact verArr_congr fun i _ => by simp)), HGA.out⟩
      case round =>
        obtain ⟨q, vs2, hq, hgq, rfl, hown2, hpa2, hbt, hg2⟩ := hrel
        have HGQ := Lib.hid hgq
        have HOWN2 := Lib.hid hown2
        have HPA2 := Lib.hid hpa2
        have HBT := Lib.hid hbt
        have HGG := Lib.hid hg2
        clear hgq hown2 hpa2 hbt hg2
        by_cases hqt : q < 32
        · have hqi : (q : Int) < 32 := by omega
          obtain ⟨wb, hwb⟩ : ∃ wb : World, wb = wr := ⟨_, rfl⟩
          subst hwb
          go_wp2_with fail
          have hbv : Blk (wb.alloc (.cells (verArr fun _ => 0#32) 94)) wb.heap.size 94 (verArr fun _ => 0#32) := Blk.new wb _ _ rfl
          have HBV := Lib.hid hbv
          clear hbv
          go_loopg [41] 32 (fun g3 i wr => ∃ j : Nat, j ≤ 32 ∧ g3 = 32 - j ∧ i = .int .i64 j ∧ Blk wr wb.heap.size 94 (verArr fun p => if p < j then (if 32 * q + p < n then nv 1 else nv 0) else 0#32) ∧ Turned (fun p => p = wb.heap.size) (wb.alloc (.cells (verArr fun _ => 0#32) 94)) wr)
          case atStart => exact ⟨0, by omega, by omega, rfl, by (apply Blk.conv; (· exact HBV.out); (· exact verArr_congr fun i _ => by simp)), Turned.refl _ _⟩
          case round =>
            obtain ⟨j, hj, hg3, rfl, hbv, htv⟩ := hrel
            have HG3 := Lib.hid hg3
            have HTV := Lib.hid htv
            clear hg3 htv
            by_cases hjt : j < 32
            · have hji : (j : Int) < 32 := by omega
              by_cases hin : 32 * q + j < n
              · have hini : decide (32 * (q : Int) + (j : Int) < (n : Int)) = true := decide_eq_true (by omega)
                have ha := hbv.cell j
                rw [verArr_get _ _ hjt] at ha
                have hf := hbv.frozen j
                have hvl := hbv.lt
                go_wp2_with fail
                go_roundg (32 - (j + 1))
                case measure => rw [HG3.out]; omega
                case rel => exact ⟨j + 1, by omega, by omega, by go_num, by (apply Blk.conv; (· (repeat' first | (with_reducible assumption) | (with_reducible apply Blk.setRow) | ((with_reducible apply Blk.farRow); rotate_left; (focus (first | (simp; done) | (simp; omega) | omega))) | (with_reducible apply Blk.drew) | (with_reducible apply Blk.drewN) | (with_reducible apply Blk.set_) | (with_reducible exact Blk.new _ _ _ (by first | rfl | (simp; done) | (simp; omega))) | (with_reducible apply Blk.alloc) | ((with_reducible apply Blk.far); rotate_left; (focus (first | (simp; done) | (simp; omega) | omega))) | ((with_reducible apply Blk.grew); rotate_left; (with_reducible assumption)) | ((with_reducible apply Blk.turned); rotate_left; (with_reducible assumption); (focus (first | (simp; done) | (simp; omega) | omega))) | fail)); (· exact fmt_yes n q j hin)), HTV.out.setCell (fun _ => rfl) _⟩
              · have hini : decide (32 * (q : Int) + (j : Int) < (n : Int)) = false := decide_eq_false (by omega)
                go_wp2_with fail
                go_roundg (32 - (j + 1))
                case measure => rw [HG3.out]; omega
                case rel => exact ⟨j + 1, by omega, by omega, by go_num, by (apply Blk.conv; (· (repeat' first | (with_reducible assumption) | (with_reducible apply Blk.setRow) | ((with_reducible apply Blk.farRow); rotate_left; (focus (first | (simp; done) | (simp; omega) | omega))) | (with_reducible apply Blk.drew) | (with_reducible apply Blk.drewN) | (with_reducible apply Blk.set_) | (with_reducible exact Blk.new _ _ _ (by first | rfl | (simp; done) | (simp; omega))) | (with_reducible apply Blk.alloc) | ((with_reducible apply Blk.far); rotate_left; (focus (first | (simp; done) | (simp; omega) | omega))) | ((with_reducible apply Blk.grew); rotate_left; (with_reducible assumption)) | ((with_reducible apply Blk.turned); rotate_left; (with_reducible assumption); (focus (first | (simp; done) | (simp; omega) | omega))) | fail)); (· exact fmt_no n q j hin)), HTV.out⟩
            · obtain rfl : j = 32 := by omega
              clear hjt
              have hS : (verArr fun p => if p < 32 then (if 32 * q + p < n then nv 1 else nv 0) else 0#32) = verArr fun p => if 32 * q + p < n then nv 1 else nv 0 := verArr_congr fun i hi => by rw [if_pos hi]
              rw [hS] at hbv
              have hlt9 := HBT.out.lt
              have hne9 : ¬ wa.heap.size = wb.heap.size := by omega
              have hb9r := (HBT.out.alloc (.cells (verArr fun _ => 0#32) 94)).turned HTV.out hne9
              have hgr : Grew w2 wr := (HGG.out.alloc (.cells (verArr fun _ => 0#32) 94)).turn HTV.out (fun p e => by rw [e]; exact HGG.out.size)
              have hownr := (HOWN2.out.alloc (.cells (verArr fun _ => 0#32) 94)).ver HBV.out HTV.out
              have hpar := (HPA2.out.grew ((Grew.refl wb).alloc (.cells (verArr fun _ => 0#32) 94))).ver HBV.out HTV.out
              have hts : Turned (fun p => p = wa.heap.size) wr (wr.setCell ⟨wa.heap.size, q, none⟩ (.int .u32 1)) := (Turned.refl (fun p => p = wa.heap.size) wr).setCell (p := ⟨wa.heap.size, q, none⟩) (fun _ => rfl) _
              have HBVD := Lib.hid (hbv.turned hts (fun e => hne9 e.symm))
              have HB9D := Lib.hid ((hb9r.set_ q (.int .u32 1)).conv (top_row q))
              have HOWND := Lib.hid (hownr.ver hb9r hts)
              have HPAD := Lib.hid (hpar.ver hb9r hts)
              have HGD := Lib.hid (hgr.setCell (p := ⟨wa.heap.size, q, none⟩) (by exact HG.out.size) (.int .u32 1))
              have ha9 := hb9r.cell q
              rw [verArr_get _ _ hqt] at ha9
              have hf9 := hb9r.frozen q
              have hl9 := hb9r.lt
              clear hbv hb9r hgr hownr hpar hts hS hlt9
              go_wp2_with fail
              obtain ⟨wd, hwd⟩ : ∃ wd, wd = wr.setCell ⟨wa.heap.size, q, none⟩ (.int .u32 1) := ⟨_, rfl⟩
              rw [← hwd] at HBVD HB9D HOWND HPAD HGD ⊢
              clear hwd ha9 hf9 hl9
              refine (vdata_any _ _ _ HBVD.out).mono ?_
              rintro e we ⟨rfl, ge⟩
              have HB9E := Lib.hid (HB9D.out.grew ge)
              have HOWNE := Lib.hid (HOWND.out.grew ge)
              have HPAE := Lib.hid (HPAD.out.grew ge)
              have HGE := Lib.hid (HGD.out.trans ge)
              clear ge
              have HPQ := Lib.hid (pack_one (vbytes (fmtMap n q)) (1 + (q : Int)) we (by rw [vbytes_size]; unfold fmtMap; rw [List.length_map, List.length_range]; omega) (by omega))
              rw [show (List.range 32).map (fun p => if 32 * q + p < n then nv 1 else nv 0) = fmtMap n q from rfl]
              go_wp2_with fail
              refine HPQ.out.mono ?_
              rintro e wA2 ⟨rfl, gA2⟩
              go_wp2_with fail
              refine (put_any _ _ _ _).mono ?_
              rintro e wB2 ⟨v2, rfl, hput2, gB2⟩
              obtain ⟨caps, rfl⟩ := hput2.form
              have hgB2 : Grew we wB2 := gA2.trans gB2
              have hput12 : PutAt wB2 w2.heap.size s (1 + (q : Int)) (packS (vbytes (fmtMap n q)) (nv 1) (1 + (q : Int))) (.func (.func 81) #[] caps) := hput2.low (by have := HGE.out.size; have := gA2.size; omega)
              have HOWN12 := Lib.hid (HOWNE.out.grew hgB2)
              have HPA12 := Lib.hid ((HPAE.out.grew hgB2).snoc (e := (1 + (q : Int), packS (vbytes (fmtMap n q)) (nv 1) (1 + (q : Int)))) hput12)
              have hvl2 := HPAE.out.1
              have HGB2 := Lib.hid (HGE.out.trans hgB2)
              have hgs2 : w2.heap.size ≤ wB2.heap.size := HGB2.out.size
              have hlen2 : vs2.length ≤ 1100 := by rw [hvl2]; simp [F1, F2]; omega
              have KHB9F := Lib.hid (HB9E.out.grew hgB2)
              clear hput2 gA2 gB2 hgB2 hput12 hvl2
              go_wp2_with (at_builtin; refine wpList_push2 rfl _ _ 103 rfl w2.heap.size 104 1 8 .nilFunc Try.underlying103 info_fun rfl (by decide) (wB2.alloc (.cells #[.func (.func 81) #[] caps] 104)) u7 (vs2.map fun v => [v]) [.func (.func 81) #[] caps] rfl rfl (HOWN12.out.alloc _) wB2.heap.size (by rfl) (Blk.new _ _ _ rfl) rfl (by rw [List.length_map]; omega) (by rw [List.length_map]; omega) (by simp; omega) vs2.length (by rw [List.length_map]) ?_)
              intro g92 cap92 wC2 hownC2 hgbC2 _ _
              have hgC2 : Grew w2 wC2 := (HGB2.out.alloc _).own hgbC2 HOWN12.out.row_ge (Nat.le_refl _)
              have hpaC2 := (HPA12.out.grew ((Grew.refl wB2).alloc (.cells #[.func (.func 81) #[] caps] 104))).own (HOWN12.out.alloc (.cells #[.func (.func 81) #[] caps] 104)) hgbC2
              have HB9F := Lib.hid ((KHB9F.out.alloc (.cells #[.func (.func 81) #[] caps] 104)).own hgbC2 (HOWN12.out.ne_blk KHB9F.out (by decide)))
              have HOWNC2 := Lib.hid hownC2
              have HGC2 := Lib.hid hgC2
              have HPAC2 := Lib.hid hpaC2
              clear hownC2 hgbC2 hgC2 hpaC2 hgs2 hlen2
              have HF2 := Lib.hid (F2_succ n q)
              go_wp2_with fail
              go_roundg (32 - (q + 1))
              case measure => rw [HGQ.out]; omega
              case rel => exact ⟨q + 1, vs2 ++ [.func (.func 81) #[] caps], by omega, by omega, by go_num, by rw [List.map_append]; exact HOWNC2.out, by rw [HF2.out, ← List.append_assoc]; exact HPAC2.out, HB9F.out, HGC2.out⟩
        · obtain rfl : q = 32 := by omega
          have hS : (verArr fun j => if j < 32 then nv 1 else 0#32) = verArr fun _ => nv 1 := verArr_congr fun i hi => by rw [if_pos hi]
          have hbt := HBT.out
          rw [hS] at hbt
          have HBU := Lib.hid hbt
          clear hbt hS hqt
          go_wp2_with fail
          refine (vdata_any _ _ _ HBU.out).mono ?_
          rintro e we ⟨rfl, ge⟩
          have HOWNE := Lib.hid (HOWN2.out.grew ge)
          have HPAE := Lib.hid (HPA2.out.grew ge)
          have HGE := Lib.hid (HGG.out.trans ge)
          clear ge
          have HPQ := Lib.hid (pack_one (vbytes ((List.range 32).map fun _ => nv 1)) 0 we (by rw [vbytes_size, List.length_map, List.length_range]; omega) (by omega))
          go_wp2_with fail
          refine HPQ.out.mono ?_
          rintro e wA ⟨rfl, gA⟩
          go_wp2_with fail
          refine (put_any _ _ _ _).mono ?_
          rintro e wB ⟨v, rfl, hput, gB⟩
          obtain ⟨caps, rfl⟩ := hput.form
          have hgB : Grew we wB := gA.trans gB
          have hput1 : PutAt wB w2.heap.size s 0 (packS (vbytes ((List.range 32).map fun _ => nv 1)) (nv 1) 0) (.func (.func 81) #[] caps) := hput.low (by have := HGE.out.size; have := gA.size; omega)
          have HOWN1 := Lib.hid (HOWNE.out.grew hgB)
          have HPA1 := Lib.hid ((HPAE.out.grew hgB).snoc (e := (0, packS (vbytes ((List.range 32).map fun _ => nv 1)) (nv 1) 0)) hput1)
          have HGB := Lib.hid (HGE.out.trans hgB)
          have hgs9 : w2.heap.size ≤ wB.heap.size := HGB.out.size
          have hlen9 : vs2.length ≤ 1100 := by rw [HPAE.out.1]; simp [F1, F2]; omega
          clear hput gA gB hgB hput1
          go_wp2_with (at_builtin; refine wpList_pushAll (by rfl) _ _ 103 rfl w2.heap.size 104 1 8 .nilFunc Try.underlying103 info_fun rfl (by decide) u7 (vs2.map fun v => [v]) (([.func (.func 81) #[] caps, .func (.func 77) #[ptrV s] #[], .func (.func 61) #[ptrV s] #[]] : List Value).map fun v => [v]) rfl (HOWN1.out.alloc _) (some ⟨wB.heap.size, 0, none⟩) 3 3 (by rfl) rfl (ones_len _) (ones_blk (Blk.new _ _ _ rfl) (by simp)) (ones_one (by rfl)) (by rw [List.length_map]; omega) (by rw [List.length_map]; omega) (by simp; omega) ?_)
          intro v9 w9 hown9 hgb9 _
          have hg9 : Grew w2 w9 := (HGB.out.alloc _).own hgb9 HOWN1.out.row_ge (Nat.le_refl _)
          have hpa9 := (HPA1.out.grew ((Grew.refl wB).alloc (.cells #[.func (.func 81) #[] caps, .func (.func 77) #[ptrV s] #[], .func (.func 61) #[ptrV s] #[]] 104))).own (HOWN1.out.alloc (.cells #[.func (.func 81) #[] caps, .func (.func 77) #[ptrV s] #[], .func (.func 61) #[ptrV s] #[]] 104)) hgb9
          have HD := Lib.hid (format_do HL.out (HG2.out.trans hg9) (HST.out.grew hg9) HS3.out HP.out HG2.out.size n (by omega) hpa9 (by rw [List.map_append]; exact hown9))
          clear hown9 hgb9 hpa9 hg9
          obtain ⟨A2, n2, c2, rfl, hd⟩ := HD.out
          have HDD := Lib.hid hd
          clear hd
          go_wp2_with fail
          refine HDD.out.mono ?_
          rintro e w10 ⟨rfl, hL10, hB10⟩
          go_wp2_with fail
          go_ret
          rw [HFP.out]
          exact ⟨rfl, hL10, hB10⟩
end
end Go.Proofs.Ytbddelefglhaaaa
namespace Go.Proofs.Ytbddelefglhaaaa
set_option linter.unusedVariables false
set_option linter.unusedSimpArgs false
set_option linter.unusedSectionVars false
open Go.RowKit
attribute [local go_sem ↓] Go.wp_at_zero Go.wp_at_succ
/-- A map sector is there, and as new as the top says. -/
def okMap (D : Dev) (k : Nat) : Prop := (topI D).ok = true ∧ (mapI D k).ok = true ∧ (mapI D k).ver = fld (topI D).data k
instance (D : Dev) (k : Nat) : Decidable (okMap D k) := by unfold okMap; exact inferInstance
def mapErr (D : Dev) (k : Nat) : Int := if (topI D).ok = false then 11 else if (mapI D k).ok = false then 11 else 12
/-- A view in memory. -/
structure ViewAt (w : World) (lo g s mm : Nat) (topv : Value) (F : Int → Option Value) (D : Dev) : Prop where
  blk : Blk w g 153 #[ptrV s, topv, .map (some mm)]
  lg : lo ≤ g
  lm : lo ≤ mm
  map : MapI w mm F
  top : topv = .pointer none ∨ ∃ t, lo ≤ t ∧ topv = ptrV t ∧ Blk w t 94 (verArr (fld (topI D).data)) ∧ (topI D).ok = true
  maps : ∀ k v, F k = some v → ∃ (b j : Nat), k = (j : Int) ∧ v = ptrV b ∧ lo ≤ b ∧ Blk w b 94 (verArr (fld (mapI D j).data)) ∧ okMap D j
def ViewM (w : World) (lo g s mm : Nat) (D : Dev) : Prop := ∃ topv F, ViewAt w lo g s mm topv F D
theorem ViewAt.kept {w w' : World} {lo g s mm : Nat} {topv : Value} {F : Int → Option Value} {D : Dev} (h : ViewAt w lo g s mm topv F D) {S : Nat → Prop} (ht : Turned S w w') (hS : ∀ k, lo ≤ k → k < w.heap.size → ¬ S k) : ViewAt w' lo g s mm topv F D := by
  refine ⟨h.blk.turned ht (hS g h.lg h.blk.lt), h.lg, h.lm, h.map.turned ht (hS mm h.lm h.map.lt), ?_, fun k v hk => ?_⟩
  · rcases h.top with h1 | ⟨t, h1, h2, h3, h4⟩
    · exact .inl h1
    · exact .inr ⟨t, h1, h2, h3.turned ht (hS t h1 h3.lt), h4⟩
  · obtain ⟨b, j, h1, h2, h3, h4, h5⟩ := h.maps k v hk
    exact ⟨b, j, h1, h2, h3, h4.turned ht (hS b h3 h4.lt), h5⟩
theorem ViewAt.grew {w w' : World} {lo g s mm : Nat} {topv : Value} {F : Int → Option Value} {D : Dev} (h : ViewAt w lo g s mm topv F D) (hg : Grew w w') : ViewAt w' lo g s mm topv F D := h.kept (hg.turned (fun _ => False)) (fun _ _ _ h => h)
theorem ViewAt.looked {w0 : World} {x s' m : Nat} {sy ep : Int} {E : Dev} {out : Nat → Prop} {w w' : World} {lo g s mm : Nat} {topv : Value} {F : Int → Option Value} {D : Dev} (h : ViewAt w lo g s mm topv F D) (hl : Looked w0 x s' m sy ep E out w w') (hm : m < lo) : ViewAt w' lo g s mm topv F D := h.kept hl.turned (fun k hk _ e => by omega)
theorem ViewAt.ver_ne {w : World} {lo g s mm : Nat} {topv : Value} {F : Int → Option Value} {D : Dev} (h : ViewAt w lo g s mm topv F D) {b : Nat} {cs : Array Value} (hb : Blk w b 94 cs) : ¬ b = g ∧ ¬ b = mm := ⟨Blk.ne_ hb h.blk (by decide), blk_map_ne hb h.map⟩
/-- The top is put in. -/
theorem ViewAt.setTop {w : World} {lo g s mm : Nat} {topv : Value} {F : Int → Option Value} {D : Dev} (h : ViewAt w lo g s mm topv F D) {t : Nat} (ht : lo ≤ t) (hb : Blk w t 94 (verArr (fld (topI D).data))) (hok : (topI D).ok = true) : ViewAt (w.setCell ⟨g, 1, none⟩ (ptrV t)) lo g s mm (ptrV t) F D := by
  have hT : Turned (fun k => k = g) w (w.setCell ⟨g, 1, none⟩ (ptrV t)) := (Turned.refl (fun k => k = g) w).setCell (p := ⟨g, 1, none⟩) (fun _ => rfl) _
  refine ⟨h.blk.set_ 1 _, h.lg, h.lm, h.map.turned hT (fun e => blk_map_ne h.blk h.map e.symm), .inr ⟨t, ht, rfl, hb.turned hT (h.ver_ne hb).1, hok⟩, fun k v hk => ?_⟩
  obtain ⟨b, j, h1, h2, h3, h4, h5⟩ := h.maps k v hk
  exact ⟨b, j, h1, h2, h3, h4.turned hT (h.ver_ne h4).1, h5⟩
/-- A map sector is put in. -/
theorem ViewAt.setMap {w w' : World} {lo g s mm : Nat} {topv : Value} {F : Int → Option Value} {D : Dev} (h : ViewAt w lo g s mm topv F D) {b k : Nat} (hb0 : lo ≤ b) (hb : Blk w b 94 (verArr (fld (mapI D k).data))) (hok : okMap D k) (hm : MapI w' mm (upd F (k : Int) (some (ptrV b)))) (ht : Turned (fun q => q = mm) w w') : ViewAt w' lo g s mm topv (upd F (k : Int) (some (ptrV b))) D := by
  refine ⟨h.blk.turned ht (blk_map_ne h.blk h.map), h.lg, h.lm, hm, ?_, fun q v hq => ?_⟩
  · rcases h.top with h1 | ⟨t, h1, h2, h3, h4⟩
    · exact .inl h1
    · exact .inr ⟨t, h1, h2, h3.turned ht (h.ver_ne h3).2, h4⟩
  · by_cases hqk : q = (k : Int)
    · subst hqk
      rw [upd_same] at hq
      exact ⟨b, k, rfl, (Option.some.inj hq).symm, hb0, hb.turned ht (h.ver_ne hb).2, hok⟩
    · rw [upd_other _ _ hqk] at hq
      obtain ⟨b', j, h1, h2, h3, h4, h5⟩ := h.maps q v hq
      exact ⟨b', j, h1, h2, h3, h4.turned ht (h.ver_ne h4).2, h5⟩
theorem map_is {D : Dev} (hf : D.failed = false) (k : Nat) (hk : k < 32) (hl : 132 ≤ D.st.length) (v : BitVec 32) : belowD D (1 + (k : Int)) v = (if (mapI D k).ok = false then (rawZ, 11) else if (mapI D k).ver ≠ v then (rawZ, 12) else (mapI D k, 0)) := by
  unfold belowD
  rw [show (1 + (k : Int)) = ((1 + k : Nat) : Int) from by omega, readR_ok hf (1 + k) (by omega), if_neg (by simp)]
  rfl
set_option maxRecDepth 100000 in
theorem view_any (s : Nat) (D : Dev) (lo : Nat) (w : World) (hlo : lo ≤ w.heap.size) : Calls Try.prog 73 #[ptrV s] w fun e w' => ∃ g mm, e = .returned (ptrV g) ∧ ViewM w' lo g s mm D ∧ Grew w w' := by
  have hmm := @run_makeMap Try.prog
  have HB : Hid (Blk ((w.alloc (.map #[] 0)).alloc (.cells #[ptrV s, .pointer none, .map (some w.heap.size)] 153)) (w.heap.size + 1) 153 #[ptrV s, .pointer none, .map (some w.heap.size)]) := Lib.hid (Blk.new _ _ _ (by simp))
  have HM : Hid (MapI ((w.alloc (.map #[] 0)).alloc (.cells #[ptrV s, .pointer none, .map (some w.heap.size)] 153)) w.heap.size (fun _ => none)) := Lib.hid ((MapIs.made _ rfl).alloc _)
  go_enter Try.func73, Try.ntmps73
  go_wp2_with fail
  go_ret
  exact ⟨_, _, rfl, ⟨_, _, ⟨HB.out, by omega, by omega, HM.out, .inl rfl, fun k v h => by cases h⟩⟩, by (repeat' first | (with_reducible exact Grew.refl _) | (with_reducible assumption) | (with_reducible refine Grew.alloc ?_ _) | (with_reducible refine Grew.drew ?_) | (with_reducible refine Grew.drewN ?_ _) | (with_reducible refine Grew.setRow ?_ (by first | (simp; done) | (simp; omega) | omega) _) | (with_reducible refine Grew.setCell ?_ (by first | (simp; done) | (simp; omega) | omega) _) | ((with_reducible apply Grew.trans); rotate_left; (with_reducible assumption)) | ((with_reducible apply Grew.turn); rotate_left; (with_reducible assumption); (focus (intro i hi; first | omega | (simp at hi; omega)))) | fail)⟩
end Go.Proofs.Ytbddelefglhaaaa
