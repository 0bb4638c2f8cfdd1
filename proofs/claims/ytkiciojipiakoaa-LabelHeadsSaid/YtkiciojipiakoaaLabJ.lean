/- Chapter 7: the reference's encoding of labels. -/
import Derived.Test.YtkiciojipiakoaaLabI
namespace Go.Proofs.Ytkiciojipiakoaa
set_option linter.unusedVariables false
set_option linter.unusedSimpArgs false
set_option linter.unusedSectionVars false
open Go.RowKit
attribute [local go_sem ↓] Go.wp_at_zero Go.wp_at_succ
theorem pad1024 (s : ByteArray) (w : World) (hs : s.size ≤ 1024) : Calls Try.prog 49 #[.string s, .int .i64 1024] w fun e w' => e = .returned (.string (padS 1024 s)) ∧ w = w' := padded_any s 1024 w (by omega) (by omega)
set_option maxRecDepth 100000 in
set_option maxHeartbeats 4000000 in
theorem rencode_lab (A : Option Addr) (c : Nat) (l : Lab) (t : Int) (w : World) (h : LabAt w A c l) (hs : l.ext.length ≤ 100000) (t0 : -9223372036854775808 ≤ t) (t1 : t ≤ 9223372036854775807) :
    Calls Try.prog 17 #[.agg #[.int .i64 l.id, .int .i64 l.unit, .string l.name, .string l.note, .slice A l.ext.length c], .int .i64 t] w fun e w' => e = .returned (.string (encS l t)) ∧ Grew w w' := by
  have g0 := (Grew.refl w).alloc (.cells #[.int .i64 l.id, .int .i64 l.unit, .string l.name, .string l.note, .slice A l.ext.length c] 24)
  have HL := Lib.hid h
  have HL0 := Lib.hid (h.hold g0)
  have HB0 := Lib.hid (Blk.new w 24 #[.int .i64 l.id, .int .i64 l.unit, .string l.name, .string l.note, .slice A l.ext.length c] rfl)
  have HG0 := Lib.hid g0
  have HV := Lib.hid (fun (hv : validL l t = true) => valid_facts l t hv)
  have HZ := Lib.hid (fun w' (g : Grew w w') => requalZ_any A c l w' (HL.out.hold g) hs)
  have HVC := Lib.hid (fun w' (g : Grew w w') => rvalid_lab A c l t w' (HL.out.hold g) hs t0 t1)
  clear h g0
  cases ho : okT t with
  | false =>
    have HO := Lib.hid ho
    have hvf := valid_false l t 0 ho
    have HVF := Lib.hid hvf
    have HE := Lib.hid (show encS l t = ⟨#[]⟩ from by unfold encS; rw [if_neg (by rw [ho]; simp), if_neg (by rw [hvf]; simp)])
    clear ho hvf
    go_enter Try.func17, Try.ntmps17
    go_wp2_with fail
    refine (rvalid_any _ _).mono ?_
    rintro e w1 ⟨rfl, rfl⟩
    rw [HO.out]
    go_wp2_with fail
    refine (HVC.out _ HG0.out).mono ?_
    rintro e w2 ⟨rfl, g2⟩
    rw [HVF.out]
    go_wp2_with fail
    go_ret
    exact ⟨ret_str (by rw [HE.out]), HG0.out.trans g2⟩
  | true =>
    have HO := Lib.hid ho
    clear ho
    cases hz : eqL l labZ with
    | true =>
      have HZZ := Lib.hid hz
      have HE := Lib.hid (show encS l t = padS 1024 ⟨#[]⟩ from by unfold encS; rw [if_pos ⟨HO.out, hz⟩])
      clear hz
      go_enter Try.func17, Try.ntmps17
      go_wp2_with fail
      refine (rvalid_any _ _).mono ?_
      rintro e w1 ⟨rfl, rfl⟩
      rw [HO.out]
      go_wp2_with fail
      refine (HZ.out _ HG0.out).mono ?_
      rintro e w2 ⟨rfl, g2⟩
      rw [HZZ.out]
      go_wp2_with fail
      refine (pad1024 ⟨#[]⟩ w2 (by decide)).mono ?_
      rintro e w3 ⟨rfl, rfl⟩
      have g3 := Grew.refl w2
      go_wp2_with fail
      go_ret
      exact ⟨ret_str (by rw [HE.out]), (HG0.out.trans g2).trans g3⟩
    | false =>
      have HZZ := Lib.hid hz
      clear hz
      cases hv : validL l t with
      | false =>
        have HVF := Lib.hid hv
        have HE := Lib.hid (show encS l t = ⟨#[]⟩ from by unfold encS; rw [if_neg (by rw [HZZ.out]; simp), if_neg (by rw [hv]; simp)])
        clear hv
        go_enter Try.func17, Try.ntmps17
        go_wp2_with fail
        refine (rvalid_any _ _).mono ?_
        rintro e w1 ⟨rfl, rfl⟩
        rw [HO.out]
        go_wp2_with fail
        refine (HZ.out _ HG0.out).mono ?_
        rintro e w2 ⟨rfl, g2⟩
        rw [HZZ.out]
        have hl2 := (HB0.out.grew g2).lt
        have x0 := (HB0.out.grew g2).cell 0
        have x1 := (HB0.out.grew g2).cell 1
        have x2 := (HB0.out.grew g2).cell 2
        have x3 := (HB0.out.grew g2).cell 3
        have x4 := (HB0.out.grew g2).cell 4
        go_wp2_with fail
        refine (HVC.out _ (HG0.out.trans g2)).mono ?_
        rintro e w3 ⟨rfl, g3⟩
        rw [HVF.out]
        go_wp2_with fail
        go_ret
        exact ⟨ret_str (by rw [HE.out]), (HG0.out.trans g2).trans g3⟩
      | true =>
        have HVT := Lib.hid hv
        have HE := Lib.hid (show encS l t = padS 1024 (bodyE l ++ runsE l.ext) from by unfold encS; rw [if_neg (by rw [HZZ.out]; simp), if_pos hv])
        obtain ⟨⟨v1, v2, v3, v4⟩, ⟨v5, v6⟩, ⟨v7, v8⟩, vj⟩ := HV.out hv
        have HJB := Lib.hid (jn_bd l vj)
        clear hv vj
        go_enter Try.func17, Try.ntmps17
        go_wp2_with fail
        refine (rvalid_any _ _).mono ?_
        rintro e w1 ⟨rfl, rfl⟩
        rw [HO.out]
        go_wp2_with fail
        refine (HZ.out _ HG0.out).mono ?_
        rintro e w2 ⟨rfl, g2⟩
        rw [HZZ.out]
        have hl2 := (HB0.out.grew g2).lt
        have x0 := (HB0.out.grew g2).cell 0
        have x1 := (HB0.out.grew g2).cell 1
        have x2 := (HB0.out.grew g2).cell 2
        have x3 := (HB0.out.grew g2).cell 3
        have x4 := (HB0.out.grew g2).cell 4
        go_wp2_with fail
        refine (HVC.out _ (HG0.out.trans g2)).mono ?_
        rintro e w3 ⟨rfl, g3⟩
        rw [HVT.out]
        have hG := g2.trans g3
        clear g2 g3 x0 x1 x2 x3 x4 hl2 HZ HVC
        obtain ⟨id, unit, name, note, ext⟩ := l
        simp only at v1 v2 v3 v4 v5 v6 v7 v8
        obtain ⟨idn, rfl⟩ := Int.eq_ofNat_of_zero_le (show 0 ≤ id by omega)
        obtain ⟨un, rfl⟩ := Int.eq_ofNat_of_zero_le v3
        have HB := Lib.hid (show Blk (w.alloc (.cells #[.int .i64 (idn : Int), .int .i64 (un : Int), .string name, .string note, .slice A ext.length c] 24)) w.heap.size 24 #[.int .i64 (idn : Int), .int .i64 (un : Int), .string name, .string note, .slice A ext.length c] from HB0.out)
        have HL1 := Lib.hid (show LabAt w A c ⟨(idn : Int), (un : Int), name, note, ext⟩ from HL.out)
        have HBE := Lib.hid (show bodyE ⟨(idn : Int), (un : Int), name, note, ext⟩ = eB idn ++ (eB un ++ (eB name.size ++ (name ++ (eB note.size ++ (note ++ eB ext.length))))) from rfl)
        have HBS := Lib.hid (bodyE_size ⟨(idn : Int), (un : Int), name, note, ext⟩ v5 v6)
        have HRS := Lib.hid (fun k => runsE_size (ext.take k))
        clear HB0 HL HL0
        have s0 := eB_size idn
        have s1 := eB_size un
        have s2 := eB_size name.size
        have s3 := eB_size note.size
        have s4 := eB_size ext.length
        go_wp2_with fail
        refine wp_region_R [] (fun w' : World => w'.cell? ⟨w.heap.size, 0, none⟩ = some (.int .i64 (idn : Int)) ∧ w'.cell? ⟨w.heap.size, 1, none⟩ = some (.int .i64 (un : Int)) ∧ w'.cell? ⟨w.heap.size, 2, none⟩ = some (.string name) ∧ w'.cell? ⟨w.heap.size, 3, none⟩ = some (.string note) ∧ w'.cell? ⟨w.heap.size, 4, none⟩ = some (.slice A ext.length c)) (by kernel_rfl) ?_
        have hB0 := (HB.out.grew hG).drew
        obtain ⟨wr0, hwr0⟩ : ∃ wr0, wr0 = w3.drew := ⟨_, rfl⟩
        rw [← hwr0] at hB0 ⊢
        have HG1 := Lib.hid (show Grew (w.alloc (.cells #[.int .i64 (idn : Int), .int .i64 (un : Int), .string name, .string note, .slice A ext.length c] 24)) wr0 from by rw [hwr0]; exact hG.drew)
        have HBX := Lib.hid hB0
        clear hwr0 hG
        have hS := (show (fun w' : World => w'.cell? ⟨w.heap.size, 0, none⟩ = some (.int .i64 (idn : Int)) ∧ w'.cell? ⟨w.heap.size, 1, none⟩ = some (.int .i64 (un : Int)) ∧ w'.cell? ⟨w.heap.size, 2, none⟩ = some (.string name) ∧ w'.cell? ⟨w.heap.size, 3, none⟩ = some (.string note) ∧ w'.cell? ⟨w.heap.size, 4, none⟩ = some (.slice A ext.length c)) wr0 from ⟨hB0.cell 0, hB0.cell 1, hB0.cell 2, hB0.cell 3, hB0.cell 4⟩)
        clear hB0
        have hG := Grew.refl wr0
        refine wpAnyR_takeQ (i := 0) (v := ?_) (some 19) rfl rfl (by kernel_rfl) (by kernel_rfl) (by kernel_rfl) (by kernel_rfl) (fun _ _ _ h => h) (Or.inl ⟨by rfl, ?_⟩) ?_
        rotate_left
        focus (intro wS hSw; (try dsimp only at hSw); go_simp; (try with_reducible rfl); (try (first | (rw [if_pos (by omega)]; (try go_simp); (try with_reducible rfl)) | (rw [if_neg (by omega)]; (try go_simp); (try with_reducible rfl)))))
        try simp only [Act.put, List.setIfInBounds_toArray, List.set_cons_zero, List.set_cons_succ]
        refine wpAnyR_take (i := 1) (v := ?_) [2, 3, 7, 8, 11, 12, 15, 16, 21, 22, 23] (some 20) rfl rfl (by kernel_rfl) (by kernel_rfl) (by kernel_rfl) (by kernel_rfl) (by kernel_rfl) (by kernel_rfl) (by kernel_rfl) (fun _ _ _ h => h) (Or.inl ⟨by rfl, ?_⟩) hS ?_
        rotate_left
        focus (intro wS hSw; (try dsimp only at hSw); go_simp; (try with_reducible rfl); (try (first | (rw [if_pos (by omega)]; (try go_simp); (try with_reducible rfl)) | (rw [if_neg (by omega)]; (try go_simp); (try with_reducible rfl)))))
        try simp only [Act.put, List.setIfInBounds_toArray, List.set_cons_zero, List.set_cons_succ]
        refine wpAnyR_take (i := 2) (v := ?_) [3, 7, 8, 11, 12, 15, 16, 21, 22, 23] (some 21) rfl rfl (by kernel_rfl) (by kernel_rfl) (by kernel_rfl) (by kernel_rfl) (by kernel_rfl) (by kernel_rfl) (by kernel_rfl) (fun _ _ _ h => h) (Or.inl ⟨by rfl, ?_⟩) hS ?_
        rotate_left
        focus (intro wS hSw; (try dsimp only at hSw); go_simp; (try with_reducible rfl); (try (first | (rw [if_pos (by omega)]; (try go_simp); (try with_reducible rfl)) | (rw [if_neg (by omega)]; (try go_simp); (try with_reducible rfl)))))
        try simp only [Act.put, List.setIfInBounds_toArray, List.set_cons_zero, List.set_cons_succ]
        refine wpAnyR_takeQ (i := 4) (v := ?_) (some 23) rfl rfl (by kernel_rfl) (by kernel_rfl) (by kernel_rfl) (by kernel_rfl) (fun _ _ _ h => h) (Or.inl ⟨by rfl, ?_⟩) ?_
        rotate_left
        focus (intro wS hSw; (try dsimp only at hSw); go_simp; (try with_reducible rfl); (try (first | (rw [if_pos (by omega)]; (try go_simp); (try with_reducible rfl)) | (rw [if_neg (by omega)]; (try go_simp); (try with_reducible rfl)))))
        try simp only [Act.put, List.setIfInBounds_toArray, List.set_cons_zero, List.set_cons_succ]
        refine wpAnyR_take (i := 5) (v := ?_) [6, 7, 8, 11, 12, 15, 16, 21, 22, 23] (some 24) rfl rfl (by kernel_rfl) (by kernel_rfl) (by kernel_rfl) (by kernel_rfl) (by kernel_rfl) (by kernel_rfl) (by kernel_rfl) (fun _ _ _ h => h) (Or.inl ⟨by rfl, ?_⟩) hS ?_
        rotate_left
        focus (intro wS hSw; (try dsimp only at hSw); go_simp; (try with_reducible rfl); (try (first | (rw [if_pos (by omega)]; (try go_simp); (try with_reducible rfl)) | (rw [if_neg (by omega)]; (try go_simp); (try with_reducible rfl)))))
        try simp only [Act.put, List.setIfInBounds_toArray, List.set_cons_zero, List.set_cons_succ]
        refine wpAnyR_take (i := 6) (v := ?_) [7, 8, 11, 12, 15, 16, 21, 22, 23] (some 25) rfl rfl (by kernel_rfl) (by kernel_rfl) (by kernel_rfl) (by kernel_rfl) (by kernel_rfl) (by kernel_rfl) (by kernel_rfl) (fun _ _ _ h => h) (Or.inl ⟨by rfl, ?_⟩) hS ?_
        rotate_left
        focus (intro wS hSw; (try dsimp only at hSw); go_simp; (try with_reducible rfl); (try (first | (rw [if_pos (by omega)]; (try go_simp); (try with_reducible rfl)) | (rw [if_neg (by omega)]; (try go_simp); (try with_reducible rfl)))))
        try simp only [Act.put, List.setIfInBounds_toArray, List.set_cons_zero, List.set_cons_succ]
        refine wpAnyR_takeQ (i := 9) (v := ?_) (some 28) rfl rfl (by kernel_rfl) (by kernel_rfl) (by kernel_rfl) (by kernel_rfl) (fun _ _ _ h => h) (Or.inl ⟨by rfl, ?_⟩) ?_
        rotate_left
        focus (intro wS hSw; (try dsimp only at hSw); go_simp; (try with_reducible rfl); (try (first | (rw [if_pos (by omega)]; (try go_simp); (try with_reducible rfl)) | (rw [if_neg (by omega)]; (try go_simp); (try with_reducible rfl)))))
        try simp only [Act.put, List.setIfInBounds_toArray, List.set_cons_zero, List.set_cons_succ]
        refine wpAnyR_take (i := 10) (v := ?_) [11, 12, 15, 16, 21, 22, 23] (some 29) rfl rfl (by kernel_rfl) (by kernel_rfl) (by kernel_rfl) (by kernel_rfl) (by kernel_rfl) (by kernel_rfl) (by kernel_rfl) (fun _ _ _ h => h) (Or.inl ⟨by rfl, ?_⟩) hS ?_
        rotate_left
        focus (intro wS hSw; (try dsimp only at hSw); go_simp; (try with_reducible rfl); (try (first | (rw [if_pos (by omega)]; (try go_simp); (try with_reducible rfl)) | (rw [if_neg (by omega)]; (try go_simp); (try with_reducible rfl)))))
        try simp only [Act.put, List.setIfInBounds_toArray, List.set_cons_zero, List.set_cons_succ]
        refine wpAnyR_takeQ (i := 13) (v := ?_) (some 32) rfl rfl (by kernel_rfl) (by kernel_rfl) (by kernel_rfl) (by kernel_rfl) (fun _ _ _ h => h) (Or.inl ⟨by rfl, ?_⟩) ?_
        rotate_left
        focus (intro wS hSw; (try dsimp only at hSw); go_simp; (try with_reducible rfl); (try (first | (rw [if_pos (by omega)]; (try go_simp); (try with_reducible rfl)) | (rw [if_neg (by omega)]; (try go_simp); (try with_reducible rfl)))))
        try simp only [Act.put, List.setIfInBounds_toArray, List.set_cons_zero, List.set_cons_succ]
        refine wpAnyR_take (i := 14) (v := ?_) [15, 16, 21, 22, 23] (some 33) rfl rfl (by kernel_rfl) (by kernel_rfl) (by kernel_rfl) (by kernel_rfl) (by kernel_rfl) (by kernel_rfl) (by kernel_rfl) (fun _ _ _ h => h) (Or.inl ⟨by rfl, ?_⟩) hS ?_
        rotate_left
        focus (intro wS hSw; (try dsimp only at hSw); go_simp; (try with_reducible rfl); (try (first | (rw [if_pos (by omega)]; (try go_simp); (try with_reducible rfl)) | (rw [if_neg (by omega)]; (try go_simp); (try with_reducible rfl)))))
        try simp only [Act.put, List.setIfInBounds_toArray, List.set_cons_zero, List.set_cons_succ]
        refine wpAnyR_takeQ (i := 17) (v := ?_) (some 36) rfl rfl (by kernel_rfl) (by kernel_rfl) (by kernel_rfl) (by kernel_rfl) (fun _ _ _ h => h) (Or.inl ⟨by rfl, ?_⟩) ?_
        rotate_left
        focus (intro wS hSw; (try dsimp only at hSw); go_simp; (try with_reducible rfl); (try (first | (rw [if_pos (by omega)]; (try go_simp); (try with_reducible rfl)) | (rw [if_neg (by omega)]; (try go_simp); (try with_reducible rfl)))))
        try simp only [Act.put, List.setIfInBounds_toArray, List.set_cons_zero, List.set_cons_succ]
        refine wpAnyR_take (i := 18) (v := ?_) [19, 20, 21, 22, 23] (some 37) rfl rfl (by kernel_rfl) (by kernel_rfl) (by kernel_rfl) (by kernel_rfl) (by kernel_rfl) (by kernel_rfl) (by kernel_rfl) (fun _ _ _ h => h) (Or.inl ⟨by rfl, ?_⟩) hS ?_
        rotate_left
        focus (intro wS hSw; (try dsimp only at hSw); go_simp; (try with_reducible rfl); (try (first | (rw [if_pos (by omega)]; (try go_simp); (try with_reducible rfl)) | (rw [if_neg (by omega)]; (try go_simp); (try with_reducible rfl)))))
        try simp only [Act.put, List.setIfInBounds_toArray, List.set_cons_zero, List.set_cons_succ]
        refine wpAnyR_take (i := 19) (v := ?_) [20, 21, 22, 23] (some 38) rfl rfl (by kernel_rfl) (by kernel_rfl) (by kernel_rfl) (by kernel_rfl) (by kernel_rfl) (by kernel_rfl) (by kernel_rfl) (fun _ _ _ h => h) (Or.inl ⟨by rfl, ?_⟩) hS ?_
        rotate_left
        focus (intro wS hSw; (try dsimp only at hSw); go_simp; (try with_reducible rfl); (try (first | (rw [if_pos (by omega)]; (try go_simp); (try with_reducible rfl)) | (rw [if_neg (by omega)]; (try go_simp); (try with_reducible rfl)))))
        try simp only [Act.put, List.setIfInBounds_toArray, List.set_cons_zero, List.set_cons_succ]
        refine wpAnyR_take (i := 20) (v := ?_) [21, 22, 23] (some 39) rfl rfl (by kernel_rfl) (by kernel_rfl) (by kernel_rfl) (by kernel_rfl) (by kernel_rfl) (by kernel_rfl) (by kernel_rfl) (fun _ _ _ h => h) (Or.inl ⟨by rfl, ?_⟩) hS ?_
        rotate_left
        focus (intro wS hSw; (try dsimp only at hSw); go_simp; (try with_reducible rfl); (try (first | (rw [if_pos (by omega)]; (try go_simp); (try with_reducible rfl)) | (rw [if_neg (by omega)]; (try go_simp); (try with_reducible rfl)))))
        try simp only [Act.put, List.setIfInBounds_toArray, List.set_cons_zero, List.set_cons_succ]
        refine wpAnyR_n1 (i := 3) rfl (by kernel_rfl) ?_
        intro K' hK
        rw [if_pos (by rfl)]
        simp only [List.getElem_toArray, List.getElem_cons_succ, List.getElem_cons_zero]
        go_wp2_with fail
        refine (number_enc idn _ (by omega)).mono ?_
        rintro e ws ⟨rfl, gs⟩
        replace hG := hG.trans gs
        obtain ⟨N1, hN1⟩ : ∃ N1 : ByteArray, N1 = ⟨(enc idn).toArray⟩ := ⟨_, rfl⟩
        rw [← hN1]
        have HN1 := Lib.hid (show N1 = eB idn from hN1)
        have zN1 : N1.size ≤ 10 := by rw [HN1.out]; (try simp only [ByteArray.size_append]); omega
        clear gs hN1
        go_wp2_with fail
        refine hK.out _ _ (.inr (fun _ => ⟨(HBX.out.grew hG).cell 0, (HBX.out.grew hG).cell 1, (HBX.out.grew hG).cell 2, (HBX.out.grew hG).cell 3, (HBX.out.grew hG).cell 4⟩)) ?_
        clear hK hS
        refine wpAnyR_n1 (i := 7) rfl (by kernel_rfl) ?_
        intro K' hK
        rw [if_pos (by rfl)]
        simp only [List.getElem_toArray, List.getElem_cons_succ, List.getElem_cons_zero]
        go_wp2_with fail
        refine (number_enc un _ (by omega)).mono ?_
        rintro e ws ⟨rfl, gs⟩
        replace hG := hG.trans gs
        obtain ⟨N2, hN2⟩ : ∃ N2 : ByteArray, N2 = ⟨(enc un).toArray⟩ := ⟨_, rfl⟩
        rw [← hN2]
        have HN2 := Lib.hid (show N2 = eB un from hN2)
        have zN2 : N2.size ≤ 10 := by rw [HN2.out]; (try simp only [ByteArray.size_append]); omega
        clear gs hN2
        go_wp2_with fail
        refine hK.out _ _ (.inr (fun _ => ⟨(HBX.out.grew hG).cell 0, (HBX.out.grew hG).cell 1, (HBX.out.grew hG).cell 2, (HBX.out.grew hG).cell 3, (HBX.out.grew hG).cell 4⟩)) ?_
        clear hK
        refine wpAnyR_takeQ (i := 8) (v := ?_) (some 27) rfl rfl (by kernel_rfl) (by kernel_rfl) (by kernel_rfl) (by kernel_rfl) (fun _ _ _ h => h) (Or.inl ⟨by rfl, ?_⟩) ?_
        rotate_left
        focus (intro wS hSw; (try dsimp only at hSw); go_simp; (try with_reducible rfl); (try (first | (rw [if_pos (by omega)]; (try go_simp); (try with_reducible rfl)) | (rw [if_neg (by omega)]; (try go_simp); (try with_reducible rfl)))))
        try simp only [Act.put, List.setIfInBounds_toArray, List.set_cons_zero, List.set_cons_succ]
        obtain ⟨T2, hT2⟩ : ∃ T2 : ByteArray, T2 = N1 ++ N2 := ⟨_, rfl⟩
        rw [← hT2]
        have HT2 := Lib.hid hT2
        have zT2 : T2.size ≤ 20 := by rw [HT2.out]; (try simp only [ByteArray.size_append]); omega
        clear hT2
        refine wpAnyR_n1 (i := 11) rfl (by kernel_rfl) ?_
        intro K' hK
        rw [if_pos (by rfl)]
        simp only [List.getElem_toArray, List.getElem_cons_succ, List.getElem_cons_zero]
        go_wp2_with fail
        refine (refText_any name _ (by omega)).mono ?_
        rintro e ws ⟨rfl, gs⟩
        replace hG := hG.trans gs
        obtain ⟨N3, hN3⟩ : ∃ N3 : ByteArray, N3 = ⟨(enc name.size).toArray⟩ ++ name := ⟨_, rfl⟩
        rw [← hN3]
        have HN3 := Lib.hid (show N3 = eB name.size ++ name from hN3)
        have zN3 : N3.size ≤ 41 := by rw [HN3.out]; (try simp only [ByteArray.size_append]); omega
        clear gs hN3
        go_wp2_with fail
        refine hK.out _ _ (.inr (fun _ => ⟨(HBX.out.grew hG).cell 0, (HBX.out.grew hG).cell 1, (HBX.out.grew hG).cell 2, (HBX.out.grew hG).cell 3, (HBX.out.grew hG).cell 4⟩)) ?_
        clear hK
        refine wpAnyR_takeQ (i := 12) (v := ?_) (some 31) rfl rfl (by kernel_rfl) (by kernel_rfl) (by kernel_rfl) (by kernel_rfl) (fun _ _ _ h => h) (Or.inl ⟨by rfl, ?_⟩) ?_
        rotate_left
        focus (intro wS hSw; (try dsimp only at hSw); go_simp; (try with_reducible rfl); (try (first | (rw [if_pos (by omega)]; (try go_simp); (try with_reducible rfl)) | (rw [if_neg (by omega)]; (try go_simp); (try with_reducible rfl)))))
        try simp only [Act.put, List.setIfInBounds_toArray, List.set_cons_zero, List.set_cons_succ]
        obtain ⟨T3, hT3⟩ : ∃ T3 : ByteArray, T3 = T2 ++ N3 := ⟨_, rfl⟩
        rw [← hT3]
        have HT3 := Lib.hid hT3
        have zT3 : T3.size ≤ 61 := by rw [HT3.out]; (try simp only [ByteArray.size_append]); omega
        clear hT3
        refine wpAnyR_n1 (i := 15) rfl (by kernel_rfl) ?_
        intro K' hK
        rw [if_pos (by rfl)]
        simp only [List.getElem_toArray, List.getElem_cons_succ, List.getElem_cons_zero]
        go_wp2_with fail
        refine (refText_any note _ (by omega)).mono ?_
        rintro e ws ⟨rfl, gs⟩
        replace hG := hG.trans gs
        obtain ⟨N4, hN4⟩ : ∃ N4 : ByteArray, N4 = ⟨(enc note.size).toArray⟩ ++ note := ⟨_, rfl⟩
        rw [← hN4]
        have HN4 := Lib.hid (show N4 = eB note.size ++ note from hN4)
        have zN4 : N4.size ≤ 410 := by rw [HN4.out]; (try simp only [ByteArray.size_append]); omega
        clear gs hN4
        go_wp2_with fail
        refine hK.out _ _ (.inr (fun _ => ⟨(HBX.out.grew hG).cell 0, (HBX.out.grew hG).cell 1, (HBX.out.grew hG).cell 2, (HBX.out.grew hG).cell 3, (HBX.out.grew hG).cell 4⟩)) ?_
        clear hK
        refine wpAnyR_takeQ (i := 16) (v := ?_) (some 35) rfl rfl (by kernel_rfl) (by kernel_rfl) (by kernel_rfl) (by kernel_rfl) (fun _ _ _ h => h) (Or.inl ⟨by rfl, ?_⟩) ?_
        rotate_left
        focus (intro wS hSw; (try dsimp only at hSw); go_simp; (try with_reducible rfl); (try (first | (rw [if_pos (by omega)]; (try go_simp); (try with_reducible rfl)) | (rw [if_neg (by omega)]; (try go_simp); (try with_reducible rfl)))))
        try simp only [Act.put, List.setIfInBounds_toArray, List.set_cons_zero, List.set_cons_succ]
        obtain ⟨T4, hT4⟩ : ∃ T4 : ByteArray, T4 = T3 ++ N4 := ⟨_, rfl⟩
        rw [← hT4]
        have HT4 := Lib.hid hT4
        have zT4 : T4.size ≤ 471 := by rw [HT4.out]; (try simp only [ByteArray.size_append]); omega
        clear hT4
        refine wpAnyR_n1 (i := 21) rfl (by kernel_rfl) ?_
        intro K' hK
        rw [if_pos (by rfl)]
        simp only [List.getElem_toArray, List.getElem_cons_succ, List.getElem_cons_zero]
        go_wp2_with fail
        refine (number_enc ext.length _ (by omega)).mono ?_
        rintro e ws ⟨rfl, gs⟩
        replace hG := hG.trans gs
        obtain ⟨N5, hN5⟩ : ∃ N5 : ByteArray, N5 = ⟨(enc ext.length).toArray⟩ := ⟨_, rfl⟩
        rw [← hN5]
        have HN5 := Lib.hid (show N5 = eB ext.length from hN5)
        have zN5 : N5.size ≤ 10 := by rw [HN5.out]; (try simp only [ByteArray.size_append]); omega
        clear gs hN5
        go_wp2_with fail
        refine hK.out _ _ (.inr (fun _ => ⟨(HBX.out.grew hG).cell 0, (HBX.out.grew hG).cell 1, (HBX.out.grew hG).cell 2, (HBX.out.grew hG).cell 3, (HBX.out.grew hG).cell 4⟩)) ?_
        clear hK
        refine wpAnyR_takeQ (i := 22) (v := ?_) (some 41) rfl rfl (by kernel_rfl) (by kernel_rfl) (by kernel_rfl) (by kernel_rfl) (fun _ _ _ h => h) (Or.inl ⟨by rfl, ?_⟩) ?_
        rotate_left
        focus (intro wS hSw; (try dsimp only at hSw); go_simp; (try with_reducible rfl); (try (first | (rw [if_pos (by omega)]; (try go_simp); (try with_reducible rfl)) | (rw [if_neg (by omega)]; (try go_simp); (try with_reducible rfl)))))
        try simp only [Act.put, List.setIfInBounds_toArray, List.set_cons_zero, List.set_cons_succ]
        obtain ⟨T5, hT5⟩ : ∃ T5 : ByteArray, T5 = T4 ++ N5 := ⟨_, rfl⟩
        rw [← hT5]
        have HT5 := Lib.hid hT5
        have zT5 : T5.size ≤ 481 := by rw [HT5.out]; (try simp only [ByteArray.size_append]); omega
        clear hT5
        refine wpAnyR_takeQ (i := 23) (v := ?_) (some 5) rfl rfl (by kernel_rfl) (by kernel_rfl) (by kernel_rfl) (by kernel_rfl) (fun _ _ _ h => h) (Or.inl ⟨by rfl, ?_⟩) ?_
        rotate_left
        focus (intro wS hSw; (try dsimp only at hSw); go_simp; (try with_reducible rfl); (try (first | (rw [if_pos (by omega)]; (try go_simp); (try with_reducible rfl)) | (rw [if_neg (by omega)]; (try go_simp); (try with_reducible rfl)))))
        try simp only [Act.put, List.setIfInBounds_toArray, List.set_cons_zero, List.set_cons_succ]
        refine wpAnyR_done (by kernel_rfl) ?_ _
        have HS := Lib.hid (show T5 = bodyE ⟨(idn : Int), (un : Int), name, note, ext⟩ from by
          rw [HBE.out, HT5.out, HT4.out, HT3.out, HT2.out, HN1.out, HN2.out, HN3.out, HN4.out, HN5.out]; simp only [ByteArray.append_assoc])
        replace hG := HG1.out.trans hG
        clear HT2 HT3 HT4 HT5 HN1 HN2 HN3 HN4 HN5 s0 s1 s2 s3 s4 zT2 zT3 zT4 zN1 zN2 zN3 zN4 zN5 HG1 HBX
        obtain ⟨wl, hwl⟩ : ∃ wl, wl = ws := ⟨_, rfl⟩
        rw [← hwl] at hG ⊢
        clear hwl
        go_wp2_with fail
        go_loopg [5, 6] ext.length (fun gk v i wr => ∃ k : Nat, k ≤ ext.length ∧ gk = ext.length - k ∧ i = .int .i64 k ∧ v = .string (T5 ++ runsE (ext.take k)) ∧ Grew (w.alloc (.cells #[.int .i64 (idn : Int), .int .i64 (un : Int), .string name, .string note, .slice A ext.length c] 24)) wr)
        case atStart => exact ⟨0, by omega, by omega, rfl, by rw [List.take_zero]; show _ = Value.string (T5 ++ ByteArray.empty); rw [ByteArray.append_empty], hG⟩
        case round =>
          obtain ⟨k, hk, hgk, rfl, rfl, hg⟩ := hrel
          have HGK := Lib.hid hgk
          have hrs := HRS.out k
          rw [List.length_take] at hrs
          obtain ⟨U, hU⟩ : ∃ U, T5 ++ runsE (ext.take k) = U := ⟨_, rfl⟩
          have hUs : U.size ≤ 801 := by rw [← hU, ByteArray.size_append]; omega
          rw [hU]
          have HU := Lib.hid hU
          clear hgk hrs hU
          have hlb := (HB.out.grew hg).lt
          have x4 := (HB.out.grew hg).cell 4
          by_cases hlt : k < ext.length
          · obtain ⟨b, off, f, n, rfl, hb, hv, hok, c0, c1⟩ := ((HL1.out.hold HG0.out).hold hg).runs.at_ hlt
            have hsm := HJB.out ext[k] (List.getElem_mem hlt)
            rw [hv] at hsm
            simp only at hsm
            obtain ⟨q0, q1, q2⟩ := hsm
            obtain ⟨fn, rfl⟩ := Int.eq_ofNat_of_zero_le q0
            obtain ⟨nn, rfl⟩ := Int.eq_ofNat_of_zero_le q1
            have HNX := Lib.hid (show T5 ++ runsE (ext.take (k + 1)) = U ++ eB fn ++ eB nn from by
              rw [List.take_succ_eq_append_getElem hlt, runsE_snoc, hv, ← ByteArray.append_assoc, HU.out]
              show U ++ (eB fn ++ eB nn) = _
              rw [ByteArray.append_assoc])
            have z0 := eB_size fn
            have z1 := eB_size nn
            obtain ⟨wm, hwm⟩ : ∃ wm, wm = wr := ⟨_, rfl⟩
            subst hwm
            have hbl : b < wm.heap.size := by have := hg.size; omega
            clear hv hok
            go_wp2_with fail
            refine wp_region_R [] (fun w' : World => w'.cell? ⟨w.heap.size, 4, none⟩ = some (.slice (some ⟨b, off, none⟩) ext.length c) ∧ w'.cell? ⟨b, off + k * 2, none⟩ = some (.int .i64 (fn : Int)) ∧ w'.cell? ⟨b, off + k * 2 + 1, none⟩ = some (.int .i64 (nn : Int))) (by kernel_rfl) ?_
            have hS := (show (fun w' : World => w'.cell? ⟨w.heap.size, 4, none⟩ = some (.slice (some ⟨b, off, none⟩) ext.length c) ∧ w'.cell? ⟨b, off + k * 2, none⟩ = some (.int .i64 (fn : Int)) ∧ w'.cell? ⟨b, off + k * 2 + 1, none⟩ = some (.int .i64 (nn : Int))) wm.drew from ⟨x4, c0, c1⟩)
            refine wpAnyR_takeQ (i := 0) (v := ?_) (some 49) rfl rfl (by kernel_rfl) (by kernel_rfl) (by kernel_rfl) (by kernel_rfl) (fun _ _ _ h => h) (Or.inl ⟨by rfl, ?_⟩) ?_
            rotate_left
            focus (intro wS hSw; (try dsimp only at hSw); go_simp; (try with_reducible rfl); (try (first | (rw [if_pos (by omega)]; (try go_simp); (try with_reducible rfl)) | (rw [if_neg (by omega)]; (try go_simp); (try with_reducible rfl)))))
            try simp only [Act.put, List.setIfInBounds_toArray, List.set_cons_zero, List.set_cons_succ]
            refine wpAnyR_takeQ (i := 1) (v := ?_) (some 50) rfl rfl (by kernel_rfl) (by kernel_rfl) (by kernel_rfl) (by kernel_rfl) (fun _ _ _ h => h) (Or.inl ⟨by rfl, ?_⟩) ?_
            rotate_left
            focus (intro wS hSw; (try dsimp only at hSw); go_simp; (try with_reducible rfl); (try (first | (rw [if_pos (by omega)]; (try go_simp); (try with_reducible rfl)) | (rw [if_neg (by omega)]; (try go_simp); (try with_reducible rfl)))))
            try simp only [Act.put, List.setIfInBounds_toArray, List.set_cons_zero, List.set_cons_succ]
            refine wpAnyR_take (i := 2) (v := ?_) [4, 5, 6, 7, 8, 9, 17, 18, 19] (some 51) rfl rfl (by kernel_rfl) (by kernel_rfl) (by kernel_rfl) (by kernel_rfl) (by kernel_rfl) (by kernel_rfl) (by kernel_rfl) (fun _ _ _ h => h) (Or.inl ⟨by rfl, ?_⟩) hS ?_
            rotate_left
            focus (intro wS hSw; (try dsimp only at hSw); go_simp; (try with_reducible rfl); (try (first | (rw [if_pos (by omega)]; (try go_simp); (try with_reducible rfl)) | (rw [if_neg (by omega)]; (try go_simp); (try with_reducible rfl)))))
            try simp only [Act.put, List.setIfInBounds_toArray, List.set_cons_zero, List.set_cons_succ]
            refine wpAnyR_takeQ (i := 3) (v := ?_) (some 52) rfl rfl (by kernel_rfl) (by kernel_rfl) (by kernel_rfl) (by kernel_rfl) (fun _ _ _ h => h) (Or.inl ⟨by rfl, ?_⟩) ?_
            rotate_left
            focus (intro wS hSw; (try dsimp only at hSw); go_simp; (try with_reducible rfl); (try (first | (rw [if_pos (by omega)]; (try go_simp); (try with_reducible rfl)) | (rw [if_neg (by omega)]; (try go_simp); (try with_reducible rfl)))))
            try simp only [Act.put, List.setIfInBounds_toArray, List.set_cons_zero, List.set_cons_succ]
            refine wpAnyR_takeQ (i := 4) (v := ?_) (some 53) rfl rfl (by kernel_rfl) (by kernel_rfl) (by kernel_rfl) (by kernel_rfl) (fun _ _ _ h => h) (Or.inl ⟨by rfl, ?_⟩) ?_
            rotate_left
            focus (intro wS hSw; (try dsimp only at hSw); go_simp; (try with_reducible rfl); (try (first | (rw [if_pos (by omega)]; (try go_simp); (try with_reducible rfl)) | (rw [if_neg (by omega)]; (try go_simp); (try with_reducible rfl)))))
            try simp only [Act.put, List.setIfInBounds_toArray, List.set_cons_zero, List.set_cons_succ]
            refine wpAnyR_takeQ (i := 5) (v := ?_) (some 54) rfl rfl (by kernel_rfl) (by kernel_rfl) (by kernel_rfl) (by kernel_rfl) (fun _ _ _ h => h) (Or.inl ⟨by rfl, ?_⟩) ?_
            rotate_left
            focus (intro wS hSw; (try dsimp only at hSw); go_simp; (try with_reducible rfl); (try (first | (rw [if_pos (by omega)]; (try go_simp); (try with_reducible rfl)) | (rw [if_neg (by omega)]; (try go_simp); (try with_reducible rfl)))))
            try simp only [Act.put, List.setIfInBounds_toArray, List.set_cons_zero, List.set_cons_succ]
            refine wpAnyR_take (i := 6) (v := ?_) [7, 8, 9, 17, 18, 19] (some 55) rfl rfl (by kernel_rfl) (by kernel_rfl) (by kernel_rfl) (by kernel_rfl) (by kernel_rfl) (by kernel_rfl) (by kernel_rfl) (fun _ _ _ h => h) (Or.inl ⟨by rfl, ?_⟩) hS ?_
            rotate_left
            focus (intro wS hSw; (try dsimp only at hSw); go_simp; (try with_reducible rfl); (try (first | (rw [if_pos (by omega)]; (try go_simp); (try with_reducible rfl)) | (rw [if_neg (by omega)]; (try go_simp); (try with_reducible rfl)))))
            try simp only [Act.put, List.setIfInBounds_toArray, List.set_cons_zero, List.set_cons_succ]
            refine wpAnyR_take (i := 7) (v := ?_) [8, 9, 17, 18, 19] (some 56) rfl rfl (by kernel_rfl) (by kernel_rfl) (by kernel_rfl) (by kernel_rfl) (by kernel_rfl) (by kernel_rfl) (by kernel_rfl) (fun _ _ _ h => h) (Or.inl ⟨by rfl, ?_⟩) hS ?_
            rotate_left
            focus (intro wS hSw; (try dsimp only at hSw); go_simp; (try with_reducible rfl); (try (first | (rw [if_pos (by omega)]; (try go_simp); (try with_reducible rfl)) | (rw [if_neg (by omega)]; (try go_simp); (try with_reducible rfl)))))
            try simp only [Act.put, List.setIfInBounds_toArray, List.set_cons_zero, List.set_cons_succ]
            refine wpAnyR_takeQ (i := 10) (v := ?_) (some 59) rfl rfl (by kernel_rfl) (by kernel_rfl) (by kernel_rfl) (by kernel_rfl) (fun _ _ _ h => h) (Or.inl ⟨by rfl, ?_⟩) ?_
            rotate_left
            focus (intro wS hSw; (try dsimp only at hSw); go_simp; (try with_reducible rfl); (try (first | (rw [if_pos (by omega)]; (try go_simp); (try with_reducible rfl)) | (rw [if_neg (by omega)]; (try go_simp); (try with_reducible rfl)))))
            try simp only [Act.put, List.setIfInBounds_toArray, List.set_cons_zero, List.set_cons_succ]
            refine wpAnyR_take (i := 11) (v := ?_) [13, 14, 15, 16, 17, 18, 19] (some 60) rfl rfl (by kernel_rfl) (by kernel_rfl) (by kernel_rfl) (by kernel_rfl) (by kernel_rfl) (by kernel_rfl) (by kernel_rfl) (fun _ _ _ h => h) (Or.inl ⟨by rfl, ?_⟩) hS ?_
            rotate_left
            focus (intro wS hSw; (try dsimp only at hSw); go_simp; (try with_reducible rfl); (try (first | (rw [if_pos (by omega)]; (try go_simp); (try with_reducible rfl)) | (rw [if_neg (by omega)]; (try go_simp); (try with_reducible rfl)))))
            try simp only [Act.put, List.setIfInBounds_toArray, List.set_cons_zero, List.set_cons_succ]
            refine wpAnyR_takeQ (i := 12) (v := ?_) (some 61) rfl rfl (by kernel_rfl) (by kernel_rfl) (by kernel_rfl) (by kernel_rfl) (fun _ _ _ h => h) (Or.inl ⟨by rfl, ?_⟩) ?_
            rotate_left
            focus (intro wS hSw; (try dsimp only at hSw); go_simp; (try with_reducible rfl); (try (first | (rw [if_pos (by omega)]; (try go_simp); (try with_reducible rfl)) | (rw [if_neg (by omega)]; (try go_simp); (try with_reducible rfl)))))
            try simp only [Act.put, List.setIfInBounds_toArray, List.set_cons_zero, List.set_cons_succ]
            refine wpAnyR_takeQ (i := 13) (v := ?_) (some 62) rfl rfl (by kernel_rfl) (by kernel_rfl) (by kernel_rfl) (by kernel_rfl) (fun _ _ _ h => h) (Or.inl ⟨by rfl, ?_⟩) ?_
            rotate_left
            focus (intro wS hSw; (try dsimp only at hSw); go_simp; (try with_reducible rfl); (try (first | (rw [if_pos (by omega)]; (try go_simp); (try with_reducible rfl)) | (rw [if_neg (by omega)]; (try go_simp); (try with_reducible rfl)))))
            try simp only [Act.put, List.setIfInBounds_toArray, List.set_cons_zero, List.set_cons_succ]
            refine wpAnyR_takeQ (i := 14) (v := ?_) (some 63) rfl rfl (by kernel_rfl) (by kernel_rfl) (by kernel_rfl) (by kernel_rfl) (fun _ _ _ h => h) (Or.inl ⟨by rfl, ?_⟩) ?_
            rotate_left
            focus (intro wS hSw; (try dsimp only at hSw); go_simp; (try with_reducible rfl); (try (first | (rw [if_pos (by omega)]; (try go_simp); (try with_reducible rfl)) | (rw [if_neg (by omega)]; (try go_simp); (try with_reducible rfl)))))
            try simp only [Act.put, List.setIfInBounds_toArray, List.set_cons_zero, List.set_cons_succ]
            refine wpAnyR_take (i := 15) (v := ?_) [16, 17, 18, 19] (some 64) rfl rfl (by kernel_rfl) (by kernel_rfl) (by kernel_rfl) (by kernel_rfl) (by kernel_rfl) (by kernel_rfl) (by kernel_rfl) (fun _ _ _ h => h) (Or.inl ⟨by rfl, ?_⟩) hS ?_
            rotate_left
            focus (intro wS hSw; (try dsimp only at hSw); go_simp; (try with_reducible rfl); (try (first | (rw [if_pos (by omega)]; (try go_simp); (try with_reducible rfl)) | (rw [if_neg (by omega)]; (try go_simp); (try with_reducible rfl)))))
            try simp only [Act.put, List.setIfInBounds_toArray, List.set_cons_zero, List.set_cons_succ]
            refine wpAnyR_take (i := 16) (v := ?_) [17, 18, 19] (some 65) rfl rfl (by kernel_rfl) (by kernel_rfl) (by kernel_rfl) (by kernel_rfl) (by kernel_rfl) (by kernel_rfl) (by kernel_rfl) (fun _ _ _ h => h) (Or.inl ⟨by rfl, ?_⟩) hS ?_
            rotate_left
            focus (intro wS hSw; (try dsimp only at hSw); go_simp; (try with_reducible rfl); (try (first | (rw [if_pos (by omega)]; (try go_simp); (try with_reducible rfl)) | (rw [if_neg (by omega)]; (try go_simp); (try with_reducible rfl)))))
            try simp only [Act.put, List.setIfInBounds_toArray, List.set_cons_zero, List.set_cons_succ]
            refine wpAnyR_n1 (i := 8) rfl (by kernel_rfl) ?_
            intro K' hK
            rw [if_pos (by rfl)]
            simp only [List.getElem_toArray, List.getElem_cons_succ, List.getElem_cons_zero]
            go_wp2_with fail
            refine (number_enc fn _ (by omega)).mono ?_
            rintro e w4 ⟨rfl, g4⟩
            obtain ⟨N, hN⟩ : ∃ N : ByteArray, N = ⟨(enc fn).toArray⟩ := ⟨_, rfl⟩
            rw [← hN]
            have HN := Lib.hid (show N = eB fn from hN)
            have zN : N.size ≤ 10 := by rw [HN.out]; exact z0
            clear hN
            go_wp2_with fail
            refine hK.out _ _ (.inr (fun hs => ⟨(g4.cellEq _ _ hlb).trans hs.1, (g4.cellEq _ _ hbl).trans hs.2.1, (g4.cellEq _ _ hbl).trans hs.2.2⟩)) ?_
            clear hK hS
            refine wpAnyR_takeQ (i := 9) (v := ?_) (some 58) rfl rfl (by kernel_rfl) (by kernel_rfl) (by kernel_rfl) (by kernel_rfl) (fun _ _ _ h => h) (Or.inl ⟨by rfl, ?_⟩) ?_
            rotate_left
            focus (intro wS hSw; (try dsimp only at hSw); go_simp; (try with_reducible rfl); (try (first | (rw [if_pos (by omega)]; (try go_simp); (try with_reducible rfl)) | (rw [if_neg (by omega)]; (try go_simp); (try with_reducible rfl)))))
            try simp only [Act.put, List.setIfInBounds_toArray, List.set_cons_zero, List.set_cons_succ]
            obtain ⟨V, hV⟩ : ∃ V : ByteArray, V = U ++ N := ⟨_, rfl⟩
            rw [← hV]
            have HV := Lib.hid (show V = U ++ eB fn from by rw [hV, HN.out])
            have zV : V.size ≤ 811 := by rw [HV.out, ByteArray.size_append]; omega
            clear hV HN zN
            refine wpAnyR_n1 (i := 17) rfl (by kernel_rfl) ?_
            intro K' hK
            rw [if_pos (by rfl)]
            simp only [List.getElem_toArray, List.getElem_cons_succ, List.getElem_cons_zero]
            go_wp2_with fail
            refine (number_enc nn _ (by omega)).mono ?_
            rintro e w5 ⟨rfl, g5⟩
            obtain ⟨N, hN⟩ : ∃ N : ByteArray, N = ⟨(enc nn).toArray⟩ := ⟨_, rfl⟩
            rw [← hN]
            have HN := Lib.hid (show N = eB nn from hN)
            have zN : N.size ≤ 10 := by rw [HN.out]; exact z1
            clear hN
            have hz4 : wm.heap.size ≤ w4.heap.size := g4.size
            have hlb4 : w.heap.size < w4.heap.size := by omega
            have hbl4 : b < w4.heap.size := by omega
            go_wp2_with fail
            refine hK.out _ _ (.inr (fun hs => ⟨(g5.cellEq _ _ hlb4).trans hs.1, (g5.cellEq _ _ hbl4).trans hs.2.1, (g5.cellEq _ _ hbl4).trans hs.2.2⟩)) ?_
            clear hK
            have hgn := (hg.drew.trans g4).trans g5
            refine wpAnyR_takeQ (i := 18) (v := ?_) (some 67) rfl rfl (by kernel_rfl) (by kernel_rfl) (by kernel_rfl) (by kernel_rfl) (fun _ _ _ h => h) (Or.inl ⟨by rfl, ?_⟩) ?_
            rotate_left
            focus (intro wS hSw; (try dsimp only at hSw); go_simp; (try with_reducible rfl); (try (first | (rw [if_pos (by omega)]; (try go_simp); (try with_reducible rfl)) | (rw [if_neg (by omega)]; (try go_simp); (try with_reducible rfl)))))
            try simp only [Act.put, List.setIfInBounds_toArray, List.set_cons_zero, List.set_cons_succ]
            refine wpAnyR_takeQ (i := 19) (v := ?_) (some 5) rfl rfl (by kernel_rfl) (by kernel_rfl) (by kernel_rfl) (by kernel_rfl) (fun _ _ _ h => h) (Or.inl ⟨by rfl, ?_⟩) ?_
            rotate_left
            focus (intro wS hSw; (try dsimp only at hSw); go_simp; (try with_reducible rfl); (try (first | (rw [if_pos (by omega)]; (try go_simp); (try with_reducible rfl)) | (rw [if_neg (by omega)]; (try go_simp); (try with_reducible rfl)))))
            try simp only [Act.put, List.setIfInBounds_toArray, List.set_cons_zero, List.set_cons_succ]
            refine wpAnyR_done (by kernel_rfl) ?_ _
            go_wp2_with fail
            go_roundg (ext.length - (k + 1))
            case measure => rw [HGK.out]; omega
            case rel => exact ⟨k + 1, by omega, by omega, by go_num, by rw [HNX.out, ← HV.out, HN.out], hgn⟩
          · obtain rfl : k = ext.length := by omega
            have HEE := Lib.hid (show encS ⟨(idn : Int), (un : Int), name, note, ext⟩ t = padS 1024 U from by
              rw [HE.out]
              show padS 1024 (bodyE _ ++ runsE ext) = _
              rw [← HS.out, ← HU.out, List.take_length])
            go_wp2_with fail
            refine (pad1024 U _ (by omega)).mono ?_
            rintro e w6 ⟨rfl, rfl⟩
            go_wp2_with fail
            go_ret
            exact ⟨ret_str (by rw [HEE.out]), HG0.out.trans hg⟩
end Go.Proofs.Ytkiciojipiakoaa
