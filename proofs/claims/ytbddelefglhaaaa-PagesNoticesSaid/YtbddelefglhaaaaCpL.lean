/- Chapter 4: the reference's Unpack. Chapter 4: PagesPacks. The row's last step, for every law: the call returns true and turns nothing that was there. Chapter 4's laws: lists of lists of writes; a device is filled. Chapter 4: PagesRefuses. Arguments opened: lists within structs, structs within structs. Chapter 4's laws: lists of writes, lists of lists of writes, harms: opened as arguments. Chapter 4: PagesFenced. Chapter 4: PagesShared. Chapter 4: PagesAtomic. Chapter 4: PagesAtomic. -/
import Derived.ProofKit
import Derived.OpenShut
import Derived.Test.YtbddelefglhaaaaCpA
import Derived.Test.YtbddelefglhaaaaCpK
namespace Go.Proofs.Ytbddelefglhaaaa
set_option linter.unusedVariables false
set_option linter.unusedSimpArgs false
set_option linter.unusedSectionVars false
open Go.RowKit
attribute [local go_sem ↓] Go.wp_at_zero Go.wp_at_succ
set_option maxRecDepth 100000 in
set_option maxHeartbeats 1000000 in
theorem runpack_any (s : ByteArray) (i : Int) (w : World) (hs : s.size ≤ 9223372036854775807) (hi : okI i) (d : ByteArray) (v : BitVec 32) (er : Int) (hr : unpackS s i = (d, v, er)) :
    Calls Try.prog 12 #[.string s, .int .i64 i] w fun e w' => e = .returned (.tuple #[.string d, .int .u32 (u32 v), .int .i64 er]) ∧ Grew w w' := by
  have hbd := wrap_idx i
  have hbd2 : i % 4294967296 = u32 (idx32 i) := (u32_idx i).symm
  unfold okI at hi
  by_cases h140 : s.size = 140
  · have hne : ((s.size : Int) != 140) = false := by rw [h140]; rfl
    have HN1 := Lib.hid (rnumber_any (s.extract 136 s.size) (by rw [ByteArray.size_extract]; omega))
    have HS1 := Lib.hid (rsum_any (s.extract 0 136) (by rw [ByteArray.size_extract]; omega))
    have HN2 := Lib.hid (rnumber_any (s.extract 132 136) (by rw [ByteArray.size_extract]; omega))
    have HN3 := Lib.hid (rnumber_any (s.extract 128 132) (by rw [ByteArray.size_extract]; omega))
    have HSZ := Lib.hid h140
    have hsz : 140 ≤ s.size ∧ s.size ≤ 140 := by omega
    have hokr : okR s i ↔ (numS (s.extract 136 140) = sumS (s.extract 0 136) ∧ numS (s.extract 132 136) = idx32 i) := ⟨fun h => h.2, fun h => ⟨h140, h⟩⟩
    obtain ⟨p, hp⟩ : ∃ p, numS (s.extract 136 s.size) = p := ⟨_, rfl⟩
    have hp2 : numS (s.extract 136 140) = p := by rw [← hp, h140]
    obtain ⟨q, hq⟩ : ∃ q, sumS (s.extract 0 136) = q := ⟨_, rfl⟩
    obtain ⟨t, ht⟩ : ∃ t, numS (s.extract 132 136) = t := ⟨_, rfl⟩
    rw [hp] at HN1
    rw [hq] at HS1
    rw [ht] at HN2
    rw [hp2, hq, ht] at hokr
    have HOK := Lib.hid hokr
    have HR := Lib.hid hr
    have HU : Hid (unpackS s i = if okR s i then (s.extract 0 128, numS (s.extract 128 132), 0) else (⟨#[]⟩, 0#32, 11)) := Lib.hid rfl
    have HE := Lib.hid h140
    clear hp hp2 hq ht hokr hr h140
    by_cases hpq : p = q
    · have hbq : (u32 p != u32 q) = false := by rw [hpq]; simp
      by_cases hti : t = idx32 i
      · have hbt : (u32 t != u32 (idx32 i)) = false := by rw [hti]; simp
        have h1 := HR.out
        rw [HU.out, if_pos (HOK.out.2 ⟨hpq, hti⟩)] at h1
        injection h1 with h1 h2
        injection h2 with h2 h3
        subst h1; subst h2; subst h3
        clear hpq hti
        go_enter Try.func12, Try.ntmps12
        go_wp2_with fail
        refine wp_region_R [] (fun w' : World => True) (by kernel_rfl) ?_
        have hS := trivial
        refine wpAnyR_takeQ (i := 0) (v := ?_) (some 7) rfl rfl (by kernel_rfl) (by kernel_rfl) (by kernel_rfl) (by kernel_rfl) (fun _ _ _ h => h) (Or.inl ⟨by rfl, ?_⟩) ?_
        rotate_left
        focus (intro wS hSw; (try dsimp only at hSw); go_simp; (try with_reducible rfl); (try (first | (rw [if_pos (by omega)]; (try go_simp); (try with_reducible rfl)) | (rw [if_neg (by omega)]; (try go_simp); (try with_reducible rfl)))))
        try simp only [Act.put, List.setIfInBounds_toArray, List.set_cons_zero, List.set_cons_succ]
        refine wpAnyR_take (i := 1) (v := ?_) [2, 3, 4, 5, 6, 7, 8, 9, 10, 11, 12, 13, 14, 15, 16, 17, 18, 19] (some 8) rfl rfl (by kernel_rfl) (by kernel_rfl) (by kernel_rfl) (by kernel_rfl) (by kernel_rfl) (by kernel_rfl) (by kernel_rfl) (fun _ _ _ h => h) (Or.inl ⟨by rfl, ?_⟩) hS ?_
        rotate_left
        focus (intro wS hSw; (try dsimp only at hSw); go_simp; (try with_reducible rfl); (try (first | (rw [if_pos (by omega)]; (try go_simp); (try with_reducible rfl)) | (rw [if_neg (by omega)]; (try go_simp); (try with_reducible rfl)))))
        try simp only [Act.put, List.setIfInBounds_toArray, List.set_cons_zero, List.set_cons_succ]
        refine wpAnyR_takeQ (i := 2) (v := ?_) (some 9) rfl rfl (by kernel_rfl) (by kernel_rfl) (by kernel_rfl) (by kernel_rfl) (fun _ _ _ h => h) (Or.inl ⟨by rfl, ?_⟩) ?_
        rotate_left
        focus (intro wS hSw; (try dsimp only at hSw); go_simp; (try with_reducible rfl); (try (first | (rw [if_pos (by omega)]; (try go_simp); (try with_reducible rfl)) | (rw [if_neg (by omega)]; (try go_simp); (try with_reducible rfl)))))
        try simp only [Act.put, List.setIfInBounds_toArray, List.set_cons_zero, List.set_cons_succ]
        refine wpAnyR_takeQ (i := 3) (v := ?_) (some 10) rfl rfl (by kernel_rfl) (by kernel_rfl) (by kernel_rfl) (by kernel_rfl) (fun _ _ _ h => h) (Or.inl ⟨by rfl, ?_⟩) ?_
        rotate_left
        focus (intro wS hSw; (try dsimp only at hSw); go_simp; (try with_reducible rfl); (try (first | (rw [if_pos (by omega)]; (try go_simp); (try with_reducible rfl)) | (rw [if_neg (by omega)]; (try go_simp); (try with_reducible rfl)))))
        try simp only [Act.put, List.setIfInBounds_toArray, List.set_cons_zero, List.set_cons_succ]
        refine wpAnyR_takeQ (i := 4) (v := ?_) (some 11) rfl rfl (by kernel_rfl) (by kernel_rfl) (by kernel_rfl) (by kernel_rfl) (fun _ _ _ h => h) (Or.inl ⟨by rfl, ?_⟩) ?_
        rotate_left
        focus (intro wS hSw; (try dsimp only at hSw); go_simp; (try with_reducible rfl); (try (first | (rw [if_pos (by omega)]; (try go_simp); (try with_reducible rfl)) | (rw [if_neg (by omega)]; (try go_simp); (try with_reducible rfl)))))
        try simp only [Act.put, List.setIfInBounds_toArray, List.set_cons_zero, List.set_cons_succ]
        refine wpAnyR_takeQ (i := 5) (v := ?_) (some 12) rfl rfl (by kernel_rfl) (by kernel_rfl) (by kernel_rfl) (by kernel_rfl) (fun _ _ _ h => h) (Or.inl ⟨by rfl, ?_⟩) ?_
        rotate_left
        focus (intro wS hSw; (try dsimp only at hSw); go_simp; (try with_reducible rfl); (try (first | (rw [if_pos (by omega)]; (try go_simp); (try with_reducible rfl)) | (rw [if_neg (by omega)]; (try go_simp); (try with_reducible rfl)))))
        try simp only [Act.put, List.setIfInBounds_toArray, List.set_cons_zero, List.set_cons_succ]
        refine wpAnyR_takeQ (i := 7) (v := ?_) (some 14) rfl rfl (by kernel_rfl) (by kernel_rfl) (by kernel_rfl) (by kernel_rfl) (fun _ _ _ h => h) (Or.inl ⟨by rfl, ?_⟩) ?_
        rotate_left
        focus (intro wS hSw; (try dsimp only at hSw); go_simp; (try with_reducible rfl); (try (first | (rw [if_pos (by omega)]; (try go_simp); (try with_reducible rfl)) | (rw [if_neg (by omega)]; (try go_simp); (try with_reducible rfl)))))
        try simp only [Act.put, List.setIfInBounds_toArray, List.set_cons_zero, List.set_cons_succ]
        refine wpAnyR_takeQ (i := 8) (v := ?_) (some 15) rfl rfl (by kernel_rfl) (by kernel_rfl) (by kernel_rfl) (by kernel_rfl) (fun _ _ _ h => h) (Or.inl ⟨by rfl, ?_⟩) ?_
        rotate_left
        focus (intro wS hSw; (try dsimp only at hSw); go_simp; (try with_reducible rfl); (try (first | (rw [if_pos (by omega)]; (try go_simp); (try with_reducible rfl)) | (rw [if_neg (by omega)]; (try go_simp); (try with_reducible rfl)))))
        try simp only [Act.put, List.setIfInBounds_toArray, List.set_cons_zero, List.set_cons_succ]
        refine wpAnyR_n1 (i := 6) rfl (by kernel_rfl) ?_
        intro K' hK
        rw [if_pos (by rfl)]
        simp only [List.getElem_toArray, List.getElem_cons_succ, List.getElem_cons_zero]
        go_wp2_with fail
        refine (HN1.out _).mono ?_
        rintro e w1 ⟨rfl, g1⟩
        go_wp2_with fail
        refine hK.out _ _ (.inr id) ?_
        clear hK
        refine wpAnyR_n1 (i := 9) rfl (by kernel_rfl) ?_
        intro K' hK
        rw [if_pos (by rfl)]
        simp only [List.getElem_toArray, List.getElem_cons_succ, List.getElem_cons_zero]
        go_wp2_with fail
        refine (HS1.out _).mono ?_
        rintro e w2 ⟨rfl, g2⟩
        go_wp2_with fail
        refine hK.out _ _ (.inr id) ?_
        clear hK
        refine wpAnyR_takeQ (i := 10) (v := ?_) (some 17) rfl rfl (by kernel_rfl) (by kernel_rfl) (by kernel_rfl) (by kernel_rfl) (fun _ _ _ h => h) (Or.inl ⟨by rfl, ?_⟩) ?_
        rotate_left
        focus (intro wS hSw; (try dsimp only at hSw); go_simp; (try with_reducible rfl); (try (first | (rw [if_pos (by omega)]; (try go_simp); (try with_reducible rfl)) | (rw [if_neg (by omega)]; (try go_simp); (try with_reducible rfl)))))
        try simp only [Act.put, List.setIfInBounds_toArray, List.set_cons_zero, List.set_cons_succ]
        refine wpAnyR_takeQ (i := 11) (v := ?_) (some 18) rfl rfl (by kernel_rfl) (by kernel_rfl) (by kernel_rfl) (by kernel_rfl) (fun _ _ _ h => h) (Or.inl ⟨by rfl, ?_⟩) ?_
        rotate_left
        focus (intro wS hSw; (try dsimp only at hSw); go_simp; (try with_reducible rfl); (try (first | (rw [if_pos (by omega)]; (try go_simp); (try with_reducible rfl)) | (rw [if_neg (by omega)]; (try go_simp); (try with_reducible rfl)))))
        try simp only [Act.put, List.setIfInBounds_toArray, List.set_cons_zero, List.set_cons_succ]
        refine wpAnyR_takeQ (i := 12) (v := ?_) (some 19) rfl rfl (by kernel_rfl) (by kernel_rfl) (by kernel_rfl) (by kernel_rfl) (fun _ _ _ h => h) (Or.inl ⟨by rfl, ?_⟩) ?_
        rotate_left
        focus (intro wS hSw; (try dsimp only at hSw); go_simp; (try with_reducible rfl); (try (first | (rw [if_pos (by omega)]; (try go_simp); (try with_reducible rfl)) | (rw [if_neg (by omega)]; (try go_simp); (try with_reducible rfl)))))
        try simp only [Act.put, List.setIfInBounds_toArray, List.set_cons_zero, List.set_cons_succ]
        refine wpAnyR_takeQ (i := 13) (v := ?_) (some 20) rfl rfl (by kernel_rfl) (by kernel_rfl) (by kernel_rfl) (by kernel_rfl) (fun _ _ _ h => h) (Or.inl ⟨by rfl, ?_⟩) ?_
        rotate_left
        focus (intro wS hSw; (try dsimp only at hSw); go_simp; (try with_reducible rfl); (try (first | (rw [if_pos (by omega)]; (try go_simp); (try with_reducible rfl)) | (rw [if_neg (by omega)]; (try go_simp); (try with_reducible rfl)))))
        try simp only [Act.put, List.setIfInBounds_toArray, List.set_cons_zero, List.set_cons_succ]
        refine wpAnyR_takeQ (i := 14) (v := ?_) (some 21) rfl rfl (by kernel_rfl) (by kernel_rfl) (by kernel_rfl) (by kernel_rfl) (fun _ _ _ h => h) (Or.inl ⟨by rfl, ?_⟩) ?_
        rotate_left
        focus (intro wS hSw; (try dsimp only at hSw); go_simp; (try with_reducible rfl); (try (first | (rw [if_pos (by omega)]; (try go_simp); (try with_reducible rfl)) | (rw [if_neg (by omega)]; (try go_simp); (try with_reducible rfl)))))
        try simp only [Act.put, List.setIfInBounds_toArray, List.set_cons_zero, List.set_cons_succ]
        refine wpAnyR_takeQ (i := 16) (v := ?_) (some 23) rfl rfl (by kernel_rfl) (by kernel_rfl) (by kernel_rfl) (by kernel_rfl) (fun _ _ _ h => h) (Or.inl ⟨by rfl, ?_⟩) ?_
        rotate_left
        focus (intro wS hSw; (try dsimp only at hSw); go_simp; (try with_reducible rfl); (try (first | (rw [if_pos (by omega)]; (try go_simp); (try with_reducible rfl)) | (rw [if_neg (by omega)]; (try go_simp); (try with_reducible rfl)))))
        try simp only [Act.put, List.setIfInBounds_toArray, List.set_cons_zero, List.set_cons_succ]
        refine wpAnyR_take (i := 17) (v := ?_) [18, 19] (some 24) rfl rfl (by kernel_rfl) (by kernel_rfl) (by kernel_rfl) (by kernel_rfl) (by kernel_rfl) (by kernel_rfl) (by kernel_rfl) (fun _ _ _ h => h) (Or.inl ⟨by rfl, ?_⟩) hS ?_
        rotate_left
        focus (intro wS hSw; (try dsimp only at hSw); go_simp; (try with_reducible rfl); (try (first | (rw [if_pos (by omega)]; (try go_simp); (try with_reducible rfl)) | (rw [if_neg (by omega)]; (try go_simp); (try with_reducible rfl)))))
        try simp only [Act.put, List.setIfInBounds_toArray, List.set_cons_zero, List.set_cons_succ]
        refine wpAnyR_n1 (i := 15) rfl (by kernel_rfl) ?_
        intro K' hK
        rw [if_pos (by rfl)]
        simp only [List.getElem_toArray, List.getElem_cons_succ, List.getElem_cons_zero]
        go_wp2_with fail
        refine (HN2.out _).mono ?_
        rintro e w3 ⟨rfl, g3⟩
        go_wp2_with fail
        refine hK.out _ _ (.inr id) ?_
        clear hK
        refine wpAnyR_takeQ (i := 18) (v := ?_) (some 25) rfl rfl (by kernel_rfl) (by kernel_rfl) (by kernel_rfl) (by kernel_rfl) (fun _ _ _ h => h) (Or.inl ⟨by rfl, ?_⟩) ?_
        rotate_left
        focus (intro wS hSw; (try dsimp only at hSw); go_simp; (try with_reducible rfl); (try (first | (rw [if_pos (by omega)]; (try go_simp); (try with_reducible rfl)) | (rw [if_neg (by omega)]; (try go_simp); (try with_reducible rfl)))))
        try simp only [Act.put, List.setIfInBounds_toArray, List.set_cons_zero, List.set_cons_succ]
        refine wpAnyR_takeQ (i := 19) (v := ?_) (some 26) rfl rfl (by kernel_rfl) (by kernel_rfl) (by kernel_rfl) (by kernel_rfl) (fun _ _ _ h => h) (Or.inl ⟨by rfl, ?_⟩) ?_
        rotate_left
        focus (intro wS hSw; (try dsimp only at hSw); go_simp; (try with_reducible rfl); (try (first | (rw [if_pos (by omega)]; (try go_simp); (try with_reducible rfl)) | (rw [if_neg (by omega)]; (try go_simp); (try with_reducible rfl)))))
        try simp only [Act.put, List.setIfInBounds_toArray, List.set_cons_zero, List.set_cons_succ]
        refine wpAnyR_done (by kernel_rfl) ?_ _
        go_wp2_with fail
        refine wp_region_R [] (fun w' : World => True) (by kernel_rfl) ?_
        have hS := trivial
        refine wpAnyR_takeQ (i := 0) (v := ?_) (some 27) rfl rfl (by kernel_rfl) (by kernel_rfl) (by kernel_rfl) (by kernel_rfl) (fun _ _ _ h => h) (Or.inl ⟨by rfl, ?_⟩) ?_
        rotate_left
        focus (intro wS hSw; (try dsimp only at hSw); go_simp; (try with_reducible rfl); (try (first | (rw [if_pos (by omega)]; (try go_simp); (try with_reducible rfl)) | (rw [if_neg (by omega)]; (try go_simp); (try with_reducible rfl)))))
        try simp only [Act.put, List.setIfInBounds_toArray, List.set_cons_zero, List.set_cons_succ]
        refine wpAnyR_takeQ (i := 1) (v := ?_) (some 28) rfl rfl (by kernel_rfl) (by kernel_rfl) (by kernel_rfl) (by kernel_rfl) (fun _ _ _ h => h) (Or.inl ⟨by rfl, ?_⟩) ?_
        rotate_left
        focus (intro wS hSw; (try dsimp only at hSw); go_simp; (try with_reducible rfl); (try (first | (rw [if_pos (by omega)]; (try go_simp); (try with_reducible rfl)) | (rw [if_neg (by omega)]; (try go_simp); (try with_reducible rfl)))))
        try simp only [Act.put, List.setIfInBounds_toArray, List.set_cons_zero, List.set_cons_succ]
        refine wpAnyR_takeQ (i := 2) (v := ?_) (some 29) rfl rfl (by kernel_rfl) (by kernel_rfl) (by kernel_rfl) (by kernel_rfl) (fun _ _ _ h => h) (Or.inl ⟨by rfl, ?_⟩) ?_
        rotate_left
        focus (intro wS hSw; (try dsimp only at hSw); go_simp; (try with_reducible rfl); (try (first | (rw [if_pos (by omega)]; (try go_simp); (try with_reducible rfl)) | (rw [if_neg (by omega)]; (try go_simp); (try with_reducible rfl)))))
        try simp only [Act.put, List.setIfInBounds_toArray, List.set_cons_zero, List.set_cons_succ]
        refine wpAnyR_takeQ (i := 3) (v := ?_) (some 30) rfl rfl (by kernel_rfl) (by kernel_rfl) (by kernel_rfl) (by kernel_rfl) (fun _ _ _ h => h) (Or.inl ⟨by rfl, ?_⟩) ?_
        rotate_left
        focus (intro wS hSw; (try dsimp only at hSw); go_simp; (try with_reducible rfl); (try (first | (rw [if_pos (by omega)]; (try go_simp); (try with_reducible rfl)) | (rw [if_neg (by omega)]; (try go_simp); (try with_reducible rfl)))))
        try simp only [Act.put, List.setIfInBounds_toArray, List.set_cons_zero, List.set_cons_succ]
        refine wpAnyR_n1 (i := 4) rfl (by kernel_rfl) ?_
        intro K' hK
        rw [if_pos (by rfl)]
        simp only [List.getElem_toArray, List.getElem_cons_succ, List.getElem_cons_zero]
        go_wp2_with fail
        refine (HN3.out _).mono ?_
        rintro e w4 ⟨rfl, g4⟩
        go_wp2_with fail
        refine hK.out _ _ (.inr id) ?_
        clear hK
        refine wpAnyR_takeQ (i := 5) (v := ?_) (some 4) rfl rfl (by kernel_rfl) (by kernel_rfl) (by kernel_rfl) (by kernel_rfl) (fun _ _ _ h => h) (Or.inl ⟨by rfl, ?_⟩) ?_
        rotate_left
        focus (intro wS hSw; (try dsimp only at hSw); go_simp; (try with_reducible rfl); (try (first | (rw [if_pos (by omega)]; (try go_simp); (try with_reducible rfl)) | (rw [if_neg (by omega)]; (try go_simp); (try with_reducible rfl)))))
        try simp only [Act.put, List.setIfInBounds_toArray, List.set_cons_zero, List.set_cons_succ]
        refine wpAnyR_takeQ (i := 6) (v := ?_) (some 5) rfl rfl (by kernel_rfl) (by kernel_rfl) (by kernel_rfl) (by kernel_rfl) (fun _ _ _ h => h) (Or.inl ⟨by rfl, ?_⟩) ?_
        rotate_left
        focus (intro wS hSw; (try dsimp only at hSw); go_simp; (try with_reducible rfl); (try (first | (rw [if_pos (by omega)]; (try go_simp); (try with_reducible rfl)) | (rw [if_neg (by omega)]; (try go_simp); (try with_reducible rfl)))))
        try simp only [Act.put, List.setIfInBounds_toArray, List.set_cons_zero, List.set_cons_succ]
        refine wpAnyR_takeQ (i := 7) (v := ?_) (some 6) rfl rfl (by kernel_rfl) (by kernel_rfl) (by kernel_rfl) (by kernel_rfl) (fun _ _ _ h => h) (Or.inl ⟨by rfl, ?_⟩) ?_
        rotate_left
        focus (intro wS hSw; (try dsimp only at hSw); go_simp; (try with_reducible rfl); (try (first | (rw [if_pos (by omega)]; (try go_simp); (try with_reducible rfl)) | (rw [if_neg (by omega)]; (try go_simp); (try with_reducible rfl)))))
        try simp only [Act.put, List.setIfInBounds_toArray, List.set_cons_zero, List.set_cons_succ]
        refine wpAnyR_done (by kernel_rfl) ?_ _
        go_wp2_with fail
        go_ret3
        exact ⟨rfl, ((((Grew.refl w).drew.trans g1).trans g2).trans g3).drew.trans g4⟩
      · have hbt : (u32 t != u32 (idx32 i)) = true := by rw [bne_iff_ne]; exact fun e => hti (u32_inj e)
        have h1 := HR.out
        rw [HU.out, if_neg (fun e => hti (HOK.out.1 e).2)] at h1
        injection h1 with h1 h2
        injection h2 with h2 h3
        subst h1; subst h2; subst h3
        clear hpq hti
        go_enter Try.func12, Try.ntmps12
        go_wp2_with fail
        refine wp_region_R [] (fun w' : World => True) (by kernel_rfl) ?_
        have hS := trivial
        refine wpAnyR_takeQ (i := 0) (v := ?_) (some 7) rfl rfl (by kernel_rfl) (by kernel_rfl) (by kernel_rfl) (by kernel_rfl) (fun _ _ _ h => h) (Or.inl ⟨by rfl, ?_⟩) ?_
        rotate_left
        focus (intro wS hSw; (try dsimp only at hSw); go_simp; (try with_reducible rfl); (try (first | (rw [if_pos (by omega)]; (try go_simp); (try with_reducible rfl)) | (rw [if_neg (by omega)]; (try go_simp); (try with_reducible rfl)))))
        try simp only [Act.put, List.setIfInBounds_toArray, List.set_cons_zero, List.set_cons_succ]
        refine wpAnyR_take (i := 1) (v := ?_) [2, 3, 4, 5, 6, 7, 8, 9, 10, 11, 12, 13, 14, 15, 16, 17, 18, 19] (some 8) rfl rfl (by kernel_rfl) (by kernel_rfl) (by kernel_rfl) (by kernel_rfl) (by kernel_rfl) (by kernel_rfl) (by kernel_rfl) (fun _ _ _ h => h) (Or.inl ⟨by rfl, ?_⟩) hS ?_
        rotate_left
        focus (intro wS hSw; (try dsimp only at hSw); go_simp; (try with_reducible rfl); (try (first | (rw [if_pos (by omega)]; (try go_simp); (try with_reducible rfl)) | (rw [if_neg (by omega)]; (try go_simp); (try with_reducible rfl)))))
        try simp only [Act.put, List.setIfInBounds_toArray, List.set_cons_zero, List.set_cons_succ]
        refine wpAnyR_takeQ (i := 2) (v := ?_) (some 9) rfl rfl (by kernel_rfl) (by kernel_rfl) (by kernel_rfl) (by kernel_rfl) (fun _ _ _ h => h) (Or.inl ⟨by rfl, ?_⟩) ?_
        rotate_left
        focus (intro wS hSw; (try dsimp only at hSw); go_simp; (try with_reducible rfl); (try (first | (rw [if_pos (by omega)]; (try go_simp); (try with_reducible rfl)) | (rw [if_neg (by omega)]; (try go_simp); (try with_reducible rfl)))))
        try simp only [Act.put, List.setIfInBounds_toArray, List.set_cons_zero, List.set_cons_succ]
        refine wpAnyR_takeQ (i := 3) (v := ?_) (some 10) rfl rfl (by kernel_rfl) (by kernel_rfl) (by kernel_rfl) (by kernel_rfl) (fun _ _ _ h => h) (Or.inl ⟨by rfl, ?_⟩) ?_
        rotate_left
        focus (intro wS hSw; (try dsimp only at hSw); go_simp; (try with_reducible rfl); (try (first | (rw [if_pos (by omega)]; (try go_simp); (try with_reducible rfl)) | (rw [if_neg (by omega)]; (try go_simp); (try with_reducible rfl)))))
        try simp only [Act.put, List.setIfInBounds_toArray, List.set_cons_zero, List.set_cons_succ]
        refine wpAnyR_takeQ (i := 4) (v := ?_) (some 11) rfl rfl (by kernel_rfl) (by kernel_rfl) (by kernel_rfl) (by kernel_rfl) (fun _ _ _ h => h) (Or.inl ⟨by rfl, ?_⟩) ?_
        rotate_left
        focus (intro wS hSw; (try dsimp only at hSw); go_simp; (try with_reducible rfl); (try (first | (rw [if_pos (by omega)]; (try go_simp); (try with_reducible rfl)) | (rw [if_neg (by omega)]; (try go_simp); (try with_reducible rfl)))))
        try simp only [Act.put, List.setIfInBounds_toArray, List.set_cons_zero, List.set_cons_succ]
        refine wpAnyR_takeQ (i := 5) (v := ?_) (some 12) rfl rfl (by kernel_rfl) (by kernel_rfl) (by kernel_rfl) (by kernel_rfl) (fun _ _ _ h => h) (Or.inl ⟨by rfl, ?_⟩) ?_
        rotate_left
        focus (intro wS hSw; (try dsimp only at hSw); go_simp; (try with_reducible rfl); (try (first | (rw [if_pos (by omega)]; (try go_simp); (try with_reducible rfl)) | (rw [if_neg (by omega)]; (try go_simp); (try with_reducible rfl)))))
        try simp only [Act.put, List.setIfInBounds_toArray, List.set_cons_zero, List.set_cons_succ]
        refine wpAnyR_takeQ (i := 7) (v := ?_) (some 14) rfl rfl (by kernel_rfl) (by kernel_rfl) (by kernel_rfl) (by kernel_rfl) (fun _ _ _ h => h) (Or.inl ⟨by rfl, ?_⟩) ?_
        rotate_left
        focus (intro wS hSw; (try dsimp only at hSw); go_simp; (try with_reducible rfl); (try (first | (rw [if_pos (by omega)]; (try go_simp); (try with_reducible rfl)) | (rw [if_neg (by omega)]; (try go_simp); (try with_reducible rfl)))))
        try simp only [Act.put, List.setIfInBounds_toArray, List.set_cons_zero, List.set_cons_succ]
        refine wpAnyR_takeQ (i := 8) (v := ?_) (some 15) rfl rfl (by kernel_rfl) (by kernel_rfl) (by kernel_rfl) (by kernel_rfl) (fun _ _ _ h => h) (Or.inl ⟨by rfl, ?_⟩) ?_
        rotate_left
        focus (intro wS hSw; (try dsimp only at hSw); go_simp; (try with_reducible rfl); (try (first | (rw [if_pos (by omega)]; (try go_simp); (try with_reducible rfl)) | (rw [if_neg (by omega)]; (try go_simp); (try with_reducible rfl)))))
        try simp only [Act.put, List.setIfInBounds_toArray, List.set_cons_zero, List.set_cons_succ]
        refine wpAnyR_n1 (i := 6) rfl (by kernel_rfl) ?_
        intro K' hK
        rw [if_pos (by rfl)]
        simp only [List.getElem_toArray, List.getElem_cons_succ, List.getElem_cons_zero]
        go_wp2_with fail
        refine (HN1.out _).mono ?_
        rintro e w1 ⟨rfl, g1⟩
        go_wp2_with fail
        refine hK.out _ _ (.inr id) ?_
        clear hK
        refine wpAnyR_n1 (i := 9) rfl (by kernel_rfl) ?_
        intro K' hK
        rw [if_pos (by rfl)]
        simp only [List.getElem_toArray, List.getElem_cons_succ, List.getElem_cons_zero]
        go_wp2_with fail
        refine (HS1.out _).mono ?_
        rintro e w2 ⟨rfl, g2⟩
        go_wp2_with fail
        refine hK.out _ _ (.inr id) ?_
        clear hK
        refine wpAnyR_takeQ (i := 10) (v := ?_) (some 17) rfl rfl (by kernel_rfl) (by kernel_rfl) (by kernel_rfl) (by kernel_rfl) (fun _ _ _ h => h) (Or.inl ⟨by rfl, ?_⟩) ?_
        rotate_left
        focus (intro wS hSw; (try dsimp only at hSw); go_simp; (try with_reducible rfl); (try (first | (rw [if_pos (by omega)]; (try go_simp); (try with_reducible rfl)) | (rw [if_neg (by omega)]; (try go_simp); (try with_reducible rfl)))))
        try simp only [Act.put, List.setIfInBounds_toArray, List.set_cons_zero, List.set_cons_succ]
        refine wpAnyR_takeQ (i := 11) (v := ?_) (some 18) rfl rfl (by kernel_rfl) (by kernel_rfl) (by kernel_rfl) (by kernel_rfl) (fun _ _ _ h => h) (Or.inl ⟨by rfl, ?_⟩) ?_
        rotate_left
        focus (intro wS hSw; (try dsimp only at hSw); go_simp; (try with_reducible rfl); (try (first | (rw [if_pos (by omega)]; (try go_simp); (try with_reducible rfl)) | (rw [if_neg (by omega)]; (try go_simp); (try with_reducible rfl)))))
        try simp only [Act.put, List.setIfInBounds_toArray, List.set_cons_zero, List.set_cons_succ]
        refine wpAnyR_takeQ (i := 12) (v := ?_) (some 19) rfl rfl (by kernel_rfl) (by kernel_rfl) (by kernel_rfl) (by kernel_rfl) (fun _ _ _ h => h) (Or.inl ⟨by rfl, ?_⟩) ?_
        rotate_left
        focus (intro wS hSw; (try dsimp only at hSw); go_simp; (try with_reducible rfl); (try (first | (rw [if_pos (by omega)]; (try go_simp); (try with_reducible rfl)) | (rw [if_neg (by omega)]; (try go_simp); (try with_reducible rfl)))))
        try simp only [Act.put, List.setIfInBounds_toArray, List.set_cons_zero, List.set_cons_succ]
        refine wpAnyR_takeQ (i := 13) (v := ?_) (some 20) rfl rfl (by kernel_rfl) (by kernel_rfl) (by kernel_rfl) (by kernel_rfl) (fun _ _ _ h => h) (Or.inl ⟨by rfl, ?_⟩) ?_
        rotate_left
        focus (intro wS hSw; (try dsimp only at hSw); go_simp; (try with_reducible rfl); (try (first | (rw [if_pos (by omega)]; (try go_simp); (try with_reducible rfl)) | (rw [if_neg (by omega)]; (try go_simp); (try with_reducible rfl)))))
        try simp only [Act.put, List.setIfInBounds_toArray, List.set_cons_zero, List.set_cons_succ]
        refine wpAnyR_takeQ (i := 14) (v := ?_) (some 21) rfl rfl (by kernel_rfl) (by kernel_rfl) (by kernel_rfl) (by kernel_rfl) (fun _ _ _ h => h) (Or.inl ⟨by rfl, ?_⟩) ?_
        rotate_left
        focus (intro wS hSw; (try dsimp only at hSw); go_simp; (try with_reducible rfl); (try (first | (rw [if_pos (by omega)]; (try go_simp); (try with_reducible rfl)) | (rw [if_neg (by omega)]; (try go_simp); (try with_reducible rfl)))))
        try simp only [Act.put, List.setIfInBounds_toArray, List.set_cons_zero, List.set_cons_succ]
        refine wpAnyR_takeQ (i := 16) (v := ?_) (some 23) rfl rfl (by kernel_rfl) (by kernel_rfl) (by kernel_rfl) (by kernel_rfl) (fun _ _ _ h => h) (Or.inl ⟨by rfl, ?_⟩) ?_
        rotate_left
        focus (intro wS hSw; (try dsimp only at hSw); go_simp; (try with_reducible rfl); (try (first | (rw [if_pos (by omega)]; (try go_simp); (try with_reducible rfl)) | (rw [if_neg (by omega)]; (try go_simp); (try with_reducible rfl)))))
        try simp only [Act.put, List.setIfInBounds_toArray, List.set_cons_zero, List.set_cons_succ]
        refine wpAnyR_take (i := 17) (v := ?_) [18, 19] (some 24) rfl rfl (by kernel_rfl) (by kernel_rfl) (by kernel_rfl) (by kernel_rfl) (by kernel_rfl) (by kernel_rfl) (by kernel_rfl) (fun _ _ _ h => h) (Or.inl ⟨by rfl, ?_⟩) hS ?_
        rotate_left
        focus (intro wS hSw; (try dsimp only at hSw); go_simp; (try with_reducible rfl); (try (first | (rw [if_pos (by omega)]; (try go_simp); (try with_reducible rfl)) | (rw [if_neg (by omega)]; (try go_simp); (try with_reducible rfl)))))
        try simp only [Act.put, List.setIfInBounds_toArray, List.set_cons_zero, List.set_cons_succ]
        refine wpAnyR_n1 (i := 15) rfl (by kernel_rfl) ?_
        intro K' hK
        rw [if_pos (by rfl)]
        simp only [List.getElem_toArray, List.getElem_cons_succ, List.getElem_cons_zero]
        go_wp2_with fail
        refine (HN2.out _).mono ?_
        rintro e w3 ⟨rfl, g3⟩
        go_wp2_with fail
        refine hK.out _ _ (.inr id) ?_
        clear hK
        refine wpAnyR_takeQ (i := 18) (v := ?_) (some 25) rfl rfl (by kernel_rfl) (by kernel_rfl) (by kernel_rfl) (by kernel_rfl) (fun _ _ _ h => h) (Or.inl ⟨by rfl, ?_⟩) ?_
        rotate_left
        focus (intro wS hSw; (try dsimp only at hSw); go_simp; (try with_reducible rfl); (try (first | (rw [if_pos (by omega)]; (try go_simp); (try with_reducible rfl)) | (rw [if_neg (by omega)]; (try go_simp); (try with_reducible rfl)))))
        try simp only [Act.put, List.setIfInBounds_toArray, List.set_cons_zero, List.set_cons_succ]
        refine wpAnyR_takeQ (i := 19) (v := ?_) (some 26) rfl rfl (by kernel_rfl) (by kernel_rfl) (by kernel_rfl) (by kernel_rfl) (fun _ _ _ h => h) (Or.inl ⟨by rfl, ?_⟩) ?_
        rotate_left
        focus (intro wS hSw; (try dsimp only at hSw); go_simp; (try with_reducible rfl); (try (first | (rw [if_pos (by omega)]; (try go_simp); (try with_reducible rfl)) | (rw [if_neg (by omega)]; (try go_simp); (try with_reducible rfl)))))
        try simp only [Act.put, List.setIfInBounds_toArray, List.set_cons_zero, List.set_cons_succ]
        refine wpAnyR_done (by kernel_rfl) ?_ _
        go_wp2_with fail
        go_ret3
        exact ⟨rfl, (((Grew.refl w).drew.trans g1).trans g2).trans g3⟩
    · have hbq : (u32 p != u32 q) = true := by rw [bne_iff_ne]; exact fun e => hpq (u32_inj e)
      have h1 := HR.out
      rw [HU.out, if_neg (fun e => hpq (HOK.out.1 e).1)] at h1
      injection h1 with h1 h2
      injection h2 with h2 h3
      subst h1; subst h2; subst h3
      clear hpq
      go_enter Try.func12, Try.ntmps12
      go_wp2_with fail
      refine wp_region_R [] (fun w' : World => True) (by kernel_rfl) ?_
      have hS := trivial
      refine wpAnyR_takeQ (i := 0) (v := ?_) (some 7) rfl rfl (by kernel_rfl) (by kernel_rfl) (by kernel_rfl) (by kernel_rfl) (fun _ _ _ h => h) (Or.inl ⟨by rfl, ?_⟩) ?_
      rotate_left
      focus (intro wS hSw; (try dsimp only at hSw); go_simp; (try with_reducible rfl); (try (first | (rw [if_pos (by omega)]; (try go_simp); (try with_reducible rfl)) | (rw [if_neg (by omega)]; (try go_simp); (try with_reducible rfl)))))
      try simp only [Act.put, List.setIfInBounds_toArray, List.set_cons_zero, List.set_cons_succ]
      refine wpAnyR_take (i := 1) (v := ?_) [2, 3, 4, 5, 6, 7, 8, 9, 10, 11, 12, 13, 14, 15, 16, 17, 18, 19] (some 8) rfl rfl (by kernel_rfl) (by kernel_rfl) (by kernel_rfl) (by kernel_rfl) (by kernel_rfl) (by kernel_rfl) (by kernel_rfl) (fun _ _ _ h => h) (Or.inl ⟨by rfl, ?_⟩) hS ?_
      rotate_left
      focus (intro wS hSw; (try dsimp only at hSw); go_simp; (try with_reducible rfl); (try (first | (rw [if_pos (by omega)]; (try go_simp); (try with_reducible rfl)) | (rw [if_neg (by omega)]; (try go_simp); (try with_reducible rfl)))))
      try simp only [Act.put, List.setIfInBounds_toArray, List.set_cons_zero, List.set_cons_succ]
      refine wpAnyR_takeQ (i := 2) (v := ?_) (some 9) rfl rfl (by kernel_rfl) (by kernel_rfl) (by kernel_rfl) (by kernel_rfl) (fun _ _ _ h => h) (Or.inl ⟨by rfl, ?_⟩) ?_
      rotate_left
      focus (intro wS hSw; (try dsimp only at hSw); go_simp; (try with_reducible rfl); (try (first | (rw [if_pos (by omega)]; (try go_simp); (try with_reducible rfl)) | (rw [if_neg (by omega)]; (try go_simp); (try with_reducible rfl)))))
      try simp only [Act.put, List.setIfInBounds_toArray, List.set_cons_zero, List.set_cons_succ]
      refine wpAnyR_takeQ (i := 3) (v := ?_) (some 10) rfl rfl (by kernel_rfl) (by kernel_rfl) (by kernel_rfl) (by kernel_rfl) (fun _ _ _ h => h) (Or.inl ⟨by rfl, ?_⟩) ?_
      rotate_left
      focus (intro wS hSw; (try dsimp only at hSw); go_simp; (try with_reducible rfl); (try (first | (rw [if_pos (by omega)]; (try go_simp); (try with_reducible rfl)) | (rw [if_neg (by omega)]; (try go_simp); (try with_reducible rfl)))))
      try simp only [Act.put, List.setIfInBounds_toArray, List.set_cons_zero, List.set_cons_succ]
      refine wpAnyR_takeQ (i := 4) (v := ?_) (some 11) rfl rfl (by kernel_rfl) (by kernel_rfl) (by kernel_rfl) (by kernel_rfl) (fun _ _ _ h => h) (Or.inl ⟨by rfl, ?_⟩) ?_
      rotate_left
      focus (intro wS hSw; (try dsimp only at hSw); go_simp; (try with_reducible rfl); (try (first | (rw [if_pos (by omega)]; (try go_simp); (try with_reducible rfl)) | (rw [if_neg (by omega)]; (try go_simp); (try with_reducible rfl)))))
      try simp only [Act.put, List.setIfInBounds_toArray, List.set_cons_zero, List.set_cons_succ]
      refine wpAnyR_takeQ (i := 5) (v := ?_) (some 12) rfl rfl (by kernel_rfl) (by kernel_rfl) (by kernel_rfl) (by kernel_rfl) (fun _ _ _ h => h) (Or.inl ⟨by rfl, ?_⟩) ?_
      rotate_left
      focus (intro wS hSw; (try dsimp only at hSw); go_simp; (try with_reducible rfl); (try (first | (rw [if_pos (by omega)]; (try go_simp); (try with_reducible rfl)) | (rw [if_neg (by omega)]; (try go_simp); (try with_reducible rfl)))))
      try simp only [Act.put, List.setIfInBounds_toArray, List.set_cons_zero, List.set_cons_succ]
      refine wpAnyR_takeQ (i := 7) (v := ?_) (some 14) rfl rfl (by kernel_rfl) (by kernel_rfl) (by kernel_rfl) (by kernel_rfl) (fun _ _ _ h => h) (Or.inl ⟨by rfl, ?_⟩) ?_
      rotate_left
      focus (intro wS hSw; (try dsimp only at hSw); go_simp; (try with_reducible rfl); (try (first | (rw [if_pos (by omega)]; (try go_simp); (try with_reducible rfl)) | (rw [if_neg (by omega)]; (try go_simp); (try with_reducible rfl)))))
      try simp only [Act.put, List.setIfInBounds_toArray, List.set_cons_zero, List.set_cons_succ]
      refine wpAnyR_takeQ (i := 8) (v := ?_) (some 15) rfl rfl (by kernel_rfl) (by kernel_rfl) (by kernel_rfl) (by kernel_rfl) (fun _ _ _ h => h) (Or.inl ⟨by rfl, ?_⟩) ?_
      rotate_left
      focus (intro wS hSw; (try dsimp only at hSw); go_simp; (try with_reducible rfl); (try (first | (rw [if_pos (by omega)]; (try go_simp); (try with_reducible rfl)) | (rw [if_neg (by omega)]; (try go_simp); (try with_reducible rfl)))))
      try simp only [Act.put, List.setIfInBounds_toArray, List.set_cons_zero, List.set_cons_succ]
      refine wpAnyR_n1 (i := 6) rfl (by kernel_rfl) ?_
      intro K' hK
      rw [if_pos (by rfl)]
      simp only [List.getElem_toArray, List.getElem_cons_succ, List.getElem_cons_zero]
      go_wp2_with fail
      refine (HN1.out _).mono ?_
      rintro e w1 ⟨rfl, g1⟩
      go_wp2_with fail
      refine hK.out _ _ (.inr id) ?_
      clear hK
      refine wpAnyR_n1 (i := 9) rfl (by kernel_rfl) ?_
      intro K' hK
      rw [if_pos (by rfl)]
      simp only [List.getElem_toArray, List.getElem_cons_succ, List.getElem_cons_zero]
      go_wp2_with fail
      refine (HS1.out _).mono ?_
      rintro e w2 ⟨rfl, g2⟩
      go_wp2_with fail
      refine hK.out _ _ (.inr id) ?_
      clear hK
      refine wpAnyR_takeQ (i := 10) (v := ?_) (some 17) rfl rfl (by kernel_rfl) (by kernel_rfl) (by kernel_rfl) (by kernel_rfl) (fun _ _ _ h => h) (Or.inl ⟨by rfl, ?_⟩) ?_
      rotate_left
      focus (intro wS hSw; (try dsimp only at hSw); go_simp; (try with_reducible rfl); (try (first | (rw [if_pos (by omega)]; (try go_simp); (try with_reducible rfl)) | (rw [if_neg (by omega)]; (try go_simp); (try with_reducible rfl)))))
      try simp only [Act.put, List.setIfInBounds_toArray, List.set_cons_zero, List.set_cons_succ]
      refine wpAnyR_takeQ (i := 11) (v := ?_) (some 18) rfl rfl (by kernel_rfl) (by kernel_rfl) (by kernel_rfl) (by kernel_rfl) (fun _ _ _ h => h) (Or.inl ⟨by rfl, ?_⟩) ?_
      rotate_left
      focus (intro wS hSw; (try dsimp only at hSw); go_simp; (try with_reducible rfl); (try (first | (rw [if_pos (by omega)]; (try go_simp); (try with_reducible rfl)) | (rw [if_neg (by omega)]; (try go_simp); (try with_reducible rfl)))))
      try simp only [Act.put, List.setIfInBounds_toArray, List.set_cons_zero, List.set_cons_succ]
      refine wpAnyR_takeQ (i := 12) (v := ?_) (some 19) rfl rfl (by kernel_rfl) (by kernel_rfl) (by kernel_rfl) (by kernel_rfl) (fun _ _ _ h => h) (Or.inl ⟨by rfl, ?_⟩) ?_
      rotate_left
      focus (intro wS hSw; (try dsimp only at hSw); go_simp; (try with_reducible rfl); (try (first | (rw [if_pos (by omega)]; (try go_simp); (try with_reducible rfl)) | (rw [if_neg (by omega)]; (try go_simp); (try with_reducible rfl)))))
      try simp only [Act.put, List.setIfInBounds_toArray, List.set_cons_zero, List.set_cons_succ]
      refine wpAnyR_takeQ (i := 13) (v := undef) (some 20) rfl rfl (by kernel_rfl) (by kernel_rfl) (by kernel_rfl) (by kernel_rfl) (fun _ _ _ h => h) (Or.inr ⟨by rfl, rfl⟩) ?_
      try simp only [Act.put, List.setIfInBounds_toArray, List.set_cons_zero, List.set_cons_succ]
      refine wpAnyR_takeQ (i := 14) (v := undef) (some 21) rfl rfl (by kernel_rfl) (by kernel_rfl) (by kernel_rfl) (by kernel_rfl) (fun _ _ _ h => h) (Or.inr ⟨by rfl, rfl⟩) ?_
      try simp only [Act.put, List.setIfInBounds_toArray, List.set_cons_zero, List.set_cons_succ]
      refine wpAnyR_takeQ (i := 15) (v := undef) (some 22) rfl rfl (by kernel_rfl) (by kernel_rfl) (by kernel_rfl) (by kernel_rfl) (fun _ _ _ h => h) (Or.inr ⟨by rfl, rfl⟩) ?_
      try simp only [Act.put, List.setIfInBounds_toArray, List.set_cons_zero, List.set_cons_succ]
      refine wpAnyR_takeQ (i := 16) (v := undef) (some 23) rfl rfl (by kernel_rfl) (by kernel_rfl) (by kernel_rfl) (by kernel_rfl) (fun _ _ _ h => h) (Or.inr ⟨by rfl, rfl⟩) ?_
      try simp only [Act.put, List.setIfInBounds_toArray, List.set_cons_zero, List.set_cons_succ]
      refine wpAnyR_takeQ (i := 17) (v := undef) (some 24) rfl rfl (by kernel_rfl) (by kernel_rfl) (by kernel_rfl) (by kernel_rfl) (fun _ _ _ h => h) (Or.inr ⟨by rfl, rfl⟩) ?_
      try simp only [Act.put, List.setIfInBounds_toArray, List.set_cons_zero, List.set_cons_succ]
      refine wpAnyR_takeQ (i := 18) (v := undef) (some 25) rfl rfl (by kernel_rfl) (by kernel_rfl) (by kernel_rfl) (by kernel_rfl) (fun _ _ _ h => h) (Or.inr ⟨by rfl, rfl⟩) ?_
      try simp only [Act.put, List.setIfInBounds_toArray, List.set_cons_zero, List.set_cons_succ]
      refine wpAnyR_takeQ (i := 19) (v := ?_) (some 26) rfl rfl (by kernel_rfl) (by kernel_rfl) (by kernel_rfl) (by kernel_rfl) (fun _ _ _ h => h) (Or.inl ⟨by rfl, ?_⟩) ?_
      rotate_left
      focus (intro wS hSw; (try dsimp only at hSw); go_simp; (try with_reducible rfl); (try (first | (rw [if_pos (by omega)]; (try go_simp); (try with_reducible rfl)) | (rw [if_neg (by omega)]; (try go_simp); (try with_reducible rfl)))))
      try simp only [Act.put, List.setIfInBounds_toArray, List.set_cons_zero, List.set_cons_succ]
      refine wpAnyR_done (by kernel_rfl) ?_ _
      go_wp2_with fail
      go_ret3
      exact ⟨rfl, ((Grew.refl w).drew.trans g1).trans g2⟩
  · have hne : ((s.size : Int) != 140) = true := by simp; omega
    have hu : unpackS s i = (⟨#[]⟩, 0#32, 11) := unpackS_no s i (fun e => h140 e.1)
    rw [hu] at hr
    injection hr with h1 h2
    injection h2 with h2 h3
    subst h1; subst h2; subst h3
    clear hu
    go_enter Try.func12, Try.ntmps12
    go_wp2_with fail
    refine wp_region_R [] (fun w' : World => True) (by kernel_rfl) ?_
    have hS := trivial
    refine wpAnyR_takeQ (i := 0) (v := ?_) (some 7) rfl rfl (by kernel_rfl) (by kernel_rfl) (by kernel_rfl) (by kernel_rfl) (fun _ _ _ h => h) (Or.inl ⟨by rfl, ?_⟩) ?_
    rotate_left
    focus (intro wS hSw; (try dsimp only at hSw); go_simp; (try with_reducible rfl); (try (first | (rw [if_pos (by omega)]; (try go_simp); (try with_reducible rfl)) | (rw [if_neg (by omega)]; (try go_simp); (try with_reducible rfl)))))
    try simp only [Act.put, List.setIfInBounds_toArray, List.set_cons_zero, List.set_cons_succ]
    refine wpAnyR_take (i := 1) (v := ?_) [2, 3, 4, 5, 6, 7, 8, 9, 10, 11, 12, 13, 14, 15, 16, 17, 18, 19] (some 8) rfl rfl (by kernel_rfl) (by kernel_rfl) (by kernel_rfl) (by kernel_rfl) (by kernel_rfl) (by kernel_rfl) (by kernel_rfl) (fun _ _ _ h => h) (Or.inl ⟨by rfl, ?_⟩) hS ?_
    rotate_left
    focus (intro wS hSw; (try dsimp only at hSw); go_simp; (try with_reducible rfl); (try (first | (rw [if_pos (by omega)]; (try go_simp); (try with_reducible rfl)) | (rw [if_neg (by omega)]; (try go_simp); (try with_reducible rfl)))))
    try simp only [Act.put, List.setIfInBounds_toArray, List.set_cons_zero, List.set_cons_succ]
    refine wpAnyR_takeQ (i := 2) (v := ?_) (some 9) rfl rfl (by kernel_rfl) (by kernel_rfl) (by kernel_rfl) (by kernel_rfl) (fun _ _ _ h => h) (Or.inl ⟨by rfl, ?_⟩) ?_
    rotate_left
    focus (intro wS hSw; (try dsimp only at hSw); go_simp; (try with_reducible rfl); (try (first | (rw [if_pos (by omega)]; (try go_simp); (try with_reducible rfl)) | (rw [if_neg (by omega)]; (try go_simp); (try with_reducible rfl)))))
    try simp only [Act.put, List.setIfInBounds_toArray, List.set_cons_zero, List.set_cons_succ]
    refine wpAnyR_takeQ (i := 3) (v := ?_) (some 10) rfl rfl (by kernel_rfl) (by kernel_rfl) (by kernel_rfl) (by kernel_rfl) (fun _ _ _ h => h) (Or.inl ⟨by rfl, ?_⟩) ?_
    rotate_left
    focus (intro wS hSw; (try dsimp only at hSw); go_simp; (try with_reducible rfl); (try (first | (rw [if_pos (by omega)]; (try go_simp); (try with_reducible rfl)) | (rw [if_neg (by omega)]; (try go_simp); (try with_reducible rfl)))))
    try simp only [Act.put, List.setIfInBounds_toArray, List.set_cons_zero, List.set_cons_succ]
    refine wpAnyR_takeQ (i := 4) (v := undef) (some 11) rfl rfl (by kernel_rfl) (by kernel_rfl) (by kernel_rfl) (by kernel_rfl) (fun _ _ _ h => h) (Or.inr ⟨by rfl, rfl⟩) ?_
    try simp only [Act.put, List.setIfInBounds_toArray, List.set_cons_zero, List.set_cons_succ]
    refine wpAnyR_takeQ (i := 5) (v := undef) (some 12) rfl rfl (by kernel_rfl) (by kernel_rfl) (by kernel_rfl) (by kernel_rfl) (fun _ _ _ h => h) (Or.inr ⟨by rfl, rfl⟩) ?_
    try simp only [Act.put, List.setIfInBounds_toArray, List.set_cons_zero, List.set_cons_succ]
    refine wpAnyR_takeQ (i := 6) (v := undef) (some 13) rfl rfl (by kernel_rfl) (by kernel_rfl) (by kernel_rfl) (by kernel_rfl) (fun _ _ _ h => h) (Or.inr ⟨by rfl, rfl⟩) ?_
    try simp only [Act.put, List.setIfInBounds_toArray, List.set_cons_zero, List.set_cons_succ]
    refine wpAnyR_takeQ (i := 7) (v := undef) (some 14) rfl rfl (by kernel_rfl) (by kernel_rfl) (by kernel_rfl) (by kernel_rfl) (fun _ _ _ h => h) (Or.inr ⟨by rfl, rfl⟩) ?_
    try simp only [Act.put, List.setIfInBounds_toArray, List.set_cons_zero, List.set_cons_succ]
    refine wpAnyR_takeQ (i := 8) (v := undef) (some 15) rfl rfl (by kernel_rfl) (by kernel_rfl) (by kernel_rfl) (by kernel_rfl) (fun _ _ _ h => h) (Or.inr ⟨by rfl, rfl⟩) ?_
    try simp only [Act.put, List.setIfInBounds_toArray, List.set_cons_zero, List.set_cons_succ]
    refine wpAnyR_takeQ (i := 9) (v := undef) (some 16) rfl rfl (by kernel_rfl) (by kernel_rfl) (by kernel_rfl) (by kernel_rfl) (fun _ _ _ h => h) (Or.inr ⟨by rfl, rfl⟩) ?_
    try simp only [Act.put, List.setIfInBounds_toArray, List.set_cons_zero, List.set_cons_succ]
    refine wpAnyR_takeQ (i := 10) (v := undef) (some 17) rfl rfl (by kernel_rfl) (by kernel_rfl) (by kernel_rfl) (by kernel_rfl) (fun _ _ _ h => h) (Or.inr ⟨by rfl, rfl⟩) ?_
    try simp only [Act.put, List.setIfInBounds_toArray, List.set_cons_zero, List.set_cons_succ]
    refine wpAnyR_takeQ (i := 11) (v := ?_) (some 18) rfl rfl (by kernel_rfl) (by kernel_rfl) (by kernel_rfl) (by kernel_rfl) (fun _ _ _ h => h) (Or.inl ⟨by rfl, ?_⟩) ?_
    rotate_left
    focus (intro wS hSw; (try dsimp only at hSw); go_simp; (try with_reducible rfl); (try (first | (rw [if_pos (by omega)]; (try go_simp); (try with_reducible rfl)) | (rw [if_neg (by omega)]; (try go_simp); (try with_reducible rfl)))))
    try simp only [Act.put, List.setIfInBounds_toArray, List.set_cons_zero, List.set_cons_succ]
    refine wpAnyR_takeQ (i := 12) (v := ?_) (some 19) rfl rfl (by kernel_rfl) (by kernel_rfl) (by kernel_rfl) (by kernel_rfl) (fun _ _ _ h => h) (Or.inl ⟨by rfl, ?_⟩) ?_
    rotate_left
    focus (intro wS hSw; (try dsimp only at hSw); go_simp; (try with_reducible rfl); (try (first | (rw [if_pos (by omega)]; (try go_simp); (try with_reducible rfl)) | (rw [if_neg (by omega)]; (try go_simp); (try with_reducible rfl)))))
    try simp only [Act.put, List.setIfInBounds_toArray, List.set_cons_zero, List.set_cons_succ]
    refine wpAnyR_takeQ (i := 13) (v := undef) (some 20) rfl rfl (by kernel_rfl) (by kernel_rfl) (by kernel_rfl) (by kernel_rfl) (fun _ _ _ h => h) (Or.inr ⟨by rfl, rfl⟩) ?_
    try simp only [Act.put, List.setIfInBounds_toArray, List.set_cons_zero, List.set_cons_succ]
    refine wpAnyR_takeQ (i := 14) (v := undef) (some 21) rfl rfl (by kernel_rfl) (by kernel_rfl) (by kernel_rfl) (by kernel_rfl) (fun _ _ _ h => h) (Or.inr ⟨by rfl, rfl⟩) ?_
    try simp only [Act.put, List.setIfInBounds_toArray, List.set_cons_zero, List.set_cons_succ]
    refine wpAnyR_takeQ (i := 15) (v := undef) (some 22) rfl rfl (by kernel_rfl) (by kernel_rfl) (by kernel_rfl) (by kernel_rfl) (fun _ _ _ h => h) (Or.inr ⟨by rfl, rfl⟩) ?_
    try simp only [Act.put, List.setIfInBounds_toArray, List.set_cons_zero, List.set_cons_succ]
    refine wpAnyR_takeQ (i := 16) (v := undef) (some 23) rfl rfl (by kernel_rfl) (by kernel_rfl) (by kernel_rfl) (by kernel_rfl) (fun _ _ _ h => h) (Or.inr ⟨by rfl, rfl⟩) ?_
    try simp only [Act.put, List.setIfInBounds_toArray, List.set_cons_zero, List.set_cons_succ]
    refine wpAnyR_takeQ (i := 17) (v := undef) (some 24) rfl rfl (by kernel_rfl) (by kernel_rfl) (by kernel_rfl) (by kernel_rfl) (fun _ _ _ h => h) (Or.inr ⟨by rfl, rfl⟩) ?_
    try simp only [Act.put, List.setIfInBounds_toArray, List.set_cons_zero, List.set_cons_succ]
    refine wpAnyR_takeQ (i := 18) (v := undef) (some 25) rfl rfl (by kernel_rfl) (by kernel_rfl) (by kernel_rfl) (by kernel_rfl) (fun _ _ _ h => h) (Or.inr ⟨by rfl, rfl⟩) ?_
    try simp only [Act.put, List.setIfInBounds_toArray, List.set_cons_zero, List.set_cons_succ]
    refine wpAnyR_takeQ (i := 19) (v := ?_) (some 26) rfl rfl (by kernel_rfl) (by kernel_rfl) (by kernel_rfl) (by kernel_rfl) (fun _ _ _ h => h) (Or.inl ⟨by rfl, ?_⟩) ?_
    rotate_left
    focus (intro wS hSw; (try dsimp only at hSw); go_simp; (try with_reducible rfl); (try (first | (rw [if_pos (by omega)]; (try go_simp); (try with_reducible rfl)) | (rw [if_neg (by omega)]; (try go_simp); (try with_reducible rfl)))))
    try simp only [Act.put, List.setIfInBounds_toArray, List.set_cons_zero, List.set_cons_succ]
    refine wpAnyR_done (by kernel_rfl) ?_ _
    go_wp2_with fail
    go_ret3
    exact ⟨rfl, by (repeat' first | (with_reducible exact Grew.refl _) | (with_reducible assumption) | (with_reducible refine Grew.alloc ?_ _) | (with_reducible refine Grew.drew ?_) | (with_reducible refine Grew.drewN ?_ _) | (with_reducible refine Grew.setRow ?_ (by first | (simp; done) | (simp; omega) | omega) _) | (with_reducible refine Grew.setCell ?_ (by first | (simp; done) | (simp; omega) | omega) _) | ((with_reducible apply Grew.trans); rotate_left; (with_reducible assumption)) | ((with_reducible apply Grew.turn); rotate_left; (with_reducible assumption); (focus (intro i hi; first | omega | (simp at hi; omega)))) | fail)⟩
end Go.Proofs.Ytbddelefglhaaaa
namespace Go.Proofs.Ytbddelefglhaaaa
set_option linter.unusedVariables false
set_option linter.unusedSimpArgs false
set_option linter.unusedSectionVars false
open Go.RowKit
attribute [local go_sem ↓] Go.wp_at_zero Go.wp_at_succ
set_option maxRecDepth 100000 in
set_option maxHeartbeats 2000000 in
theorem pagesPacks_any (d : ByteArray) (v : Nat) (hv : v < 4294967296) (i : Int) (hi : okI i) (raw : ByteArray) (hd : d.size ≤ 9223372036854775807) (hr : raw.size ≤ 9223372036854775807) (w : World) :
    Calls Try.prog 3 #[.string d, .int .u32 (v : Int), .int .i64 i, .string raw] w fun e w' => e = .returned (.bool true) ∧ Grew w w' := by
  by_cases h1 : 300 < d.size
  · have hb1 : (d.size : Int) > 300 := by omega
    go_enter Try.func3, Try.ntmps3
    go_wp2_with fail
    refine (awake4_any w).mono ?_
    rintro e w1 ⟨rfl, g1⟩
    go_wp2_with fail
    refine (awake4_any w1).mono ?_
    rintro e w2 ⟨rfl, g2⟩
    go_wp2_with fail
    go_ret
    exact ⟨rfl, g1.trans g2⟩
  by_cases h2 : 300 < raw.size
  · have hb1 : ¬ (d.size : Int) > 300 := by omega
    have hb2 : (raw.size : Int) > 300 := by omega
    go_enter Try.func3, Try.ntmps3
    go_wp2_with fail
    refine (awake4_any w).mono ?_
    rintro e w1 ⟨rfl, g1⟩
    go_wp2_with fail
    refine (awake4_any w1).mono ?_
    rintro e w2 ⟨rfl, g2⟩
    go_wp2_with fail
    go_ret
    exact ⟨rfl, g1.trans g2⟩
  have hb1 : ¬ (d.size : Int) > 300 := by omega
  have hb2 : ¬ (raw.size : Int) > 300 := by omega
  obtain ⟨x, u, er, hu⟩ : ∃ x u er, unpackS raw i = (x, u, er) := ⟨_, _, _, rfl⟩
  obtain ⟨vv, hvv⟩ : ∃ vv : BitVec 32, (v : Int) = u32 vv := ⟨BitVec.ofNat 32 v, by unfold u32; rw [BitVec.toNat_ofNat, Nat.mod_eq_of_lt hv]⟩
  rw [hvv]
  have HU := Lib.hid (fun (W : World) => unpack_any raw i W hr hi x u er hu)
  have HRU := Lib.hid (fun (W : World) => runpack_any raw i W hr hi x u er hu)
  have HP := Lib.hid (fun (W : World) => pack_any d vv i W hd hi)
  have HRP := Lib.hid (fun (W : World) => rpack_any d vv i W (by omega) hi)
  have hself : (x.toList == x.toList) = true := beq_self_eq_true _
  have hself2 : ((packS d vv i).toList == (packS d vv i).toList) = true := beq_self_eq_true _
  have hself3 : (u32 u == u32 u) = true := beq_self_eq_true _
  have hself4 : (er == er) = true := beq_self_eq_true _
  clear hv hi hd hr h1 h2 hu hvv
  go_enter Try.func3, Try.ntmps3
  go_wp2_with fail
  refine (awake4_any w).mono ?_
  rintro e w1 ⟨rfl, g1⟩
  go_wp2_with fail
  refine (HU.out w1).mono ?_
  rintro e w2 ⟨rfl, g2⟩
  go_wp2_with fail
  refine (HRU.out w2).mono ?_
  rintro e w3 ⟨rfl, g3⟩
  go_wp2_with fail
  refine (HP.out w3).mono ?_
  rintro e w4 ⟨rfl, g4⟩
  go_wp2_with fail
  refine (HRP.out w4).mono ?_
  rintro e w5 ⟨rfl, g5⟩
  go_wp2_with fail
  go_ret
  exact ⟨rfl, (((g1.trans g2).trans g3).trans g4).trans g5⟩
end Go.Proofs.Ytbddelefglhaaaa
namespace Go.Proofs.Ytbddelefglhaaaa
set_option linter.unusedVariables false
set_option linter.unusedSimpArgs false
set_option linter.unusedSectionVars false
open Go.ChangeShapes Go.WideShapes Go.ChangeAt Go.RowKit
section
variable {H : Type} {enc : TypeId × Value → H} {P : Program}
theorem trodAll_stays (hl : laidOutB P = true) {W W' : World} {sp' : Nat → Bool} : ∀ {ts : List TypeId} {vs : List Value} {ds : List (DataW H)} {ps : List MemPlace},
    ts.all (fun t => P.readableRec t && decide (t < P.types.size)) = true →
    DataW.TrodAll enc P W 0 (fun _ => true) true ts vs ds ps → (∀ p ∈ ps, W.sameAt W' p) → (∀ p ∈ ps, sp' p.block = true) → DataW.TrodAll enc P W' 0 sp' true ts vs ds ps := by
  intro ts
  induction ts with
  | nil =>
    intro vs ds ps _ h _ _
    obtain ⟨rfl, rfl, rfl⟩ := trodAll_nil h
    exact rfl
  | cons t ts ih =>
    intro vs ds ps hts h hsame hs
    obtain ⟨v, vs', d, ds', p, q, rfl, rfl, rfl, h1, h2⟩ := trodAll_cons h
    rw [List.all_cons, Bool.and_eq_true, Bool.and_eq_true] at hts
    obtain ⟨⟨ht1, ht2⟩, ht3⟩ := hts
    exact trodAll_cons_mk (WideElems.Trod_stays hl ht1 (by simpa using ht2) h1 (fun x hx => hsame x (List.mem_append_left _ hx)) (fun x hx => hs x (List.mem_append_left _ hx)))
      (ih ht3 h2 (fun x hx => hsame x (List.mem_append_right _ hx)) (fun x hx => hs x (List.mem_append_right _ hx)))
theorem law_post {f : Func} {s : ChangeSpec} {apart fresh handsOn : Bool} {W W' : World} {args : Array Value} {ds gs : List (DataW H)} {before : List MemPlace} {tb : TypeId}
    (hl : laidOutB P = true) (hread : f.params.toList.all (fun t => P.readableRec t && decide (t < P.types.size)) = true) (hrt : f.resultTypes = #[tb]) (htb : P.underlying tb = some .bool) (hvars : s.vars = [])
    (hW : DataW.Whole enc P f.params.toList s.vars apart W args.toList ds gs before) (hfn : s.fn H (ds ++ gs) = { results := [.lit (.bool true)], args := ds }) (hg : Grew W W') :
    s.post enc P f apart fresh handsOn false W args (.bool true) W' := by
  have hlt : ∀ p ∈ before, p.block < W.heap.size := fun p hp => hW.lt p hp
  have hW0 := hW
  obtain ⟨p, q, hA, hV, rfl, hfz, hnd⟩ := hW
  rw [hvars] at hV
  obtain ⟨rfl, rfl⟩ := trodVars_none hV
  rw [List.append_nil] at hlt hW0
  have hA' := trodAll_stays hl (W' := W') (sp' := fun b => decide (b < W.heap.size)) hread hA (fun x hx => hg.same (hlt x hx)) (fun x hx => by simpa using hlt x hx)
  refine ⟨ds, [], p, [], p, [], hW0, ?_, ?_, ?_, ?_, fun h => by cases h⟩
  · rw [hfn, hrt]
    show DataW.TrodAll enc P W' _ (fun _ => false) handsOn [tb] [.bool true] [.lit (.bool true)] []
    exact trodAll_mk1 (shut_bool htb true)
  · rw [hfn]
    exact hA'
  · rw [hfn, hvars]
    exact rfl
  · exact hg.frame _
end
end Go.Proofs.Ytbddelefglhaaaa
namespace Go.Proofs.Ytbddelefglhaaaa
set_option linter.unusedVariables false
set_option linter.unusedSimpArgs false
set_option linter.unusedSectionVars false
open Go.RowKit
attribute [local go_sem ↓] Go.wp_at_zero Go.wp_at_succ
/-- A list of writes among the arguments. -/
structure WsE where
  A : Option Addr
  c : Nat
  l : List (Int × ByteArray)
instance : Inhabited WsE := ⟨⟨none, 0, []⟩⟩
def wsC (x : WsE) : List Value := [.slice x.A x.l.length x.c]
structure WsOk (w : World) (B : Nat) (A : Option Addr) (l : List (Int × ByteArray)) : Prop where
  at_ : ListAt w B 2 A (l.map entC)
  len : l.length ≤ 9223372036854775807
  ok : ∀ e ∈ l, okI e.1
def LstsAt (w : World) (B : Nat) (A : Option Addr) (xs : List WsE) : Prop := (∀ x ∈ xs, WsOk w B x.A x.l) ∧ ListAt w B 1 A (xs.map wsC)
theorem WsOk.keep {w w' : World} {B : Nat} {A : Option Addr} {l : List (Int × ByteArray)} (h : WsOk w B A l) (hB : B ≤ w.heap.size) (hg : Grew w w') : WsOk w' B A l := ⟨h.at_.keep hB hg, h.len, h.ok⟩
theorem LstsAt.keep {w w' : World} {B : Nat} {A : Option Addr} {xs : List WsE} (h : LstsAt w B A xs) (hB : B ≤ w.heap.size) (hg : Grew w w') : LstsAt w' B A xs := ⟨fun x hx => (h.1 x hx).keep hB hg, h.2.keep hB hg⟩
theorem ws_at {w : World} {B : Nat} {A : Option Addr} {xs : List WsE} (h : LstsAt w B A xs) {k : Nat} (hk : k < xs.length) :
    ∃ b off, A = some ⟨b, off, none⟩ ∧ b < B ∧ w.cell? ⟨b, off + k, none⟩ = some (.slice xs[k].A xs[k].l.length xs[k].c) := by
  obtain ⟨b, off, e, hb, hc⟩ := h.2 (by rw [List.length_map]; omega)
  have hj : (xs.map wsC)[k]? = some (wsC xs[k]) := by rw [List.getElem?_map, List.getElem?_eq_getElem hk]; rfl
  exact ⟨b, off, e, hb, by have := hc k _ hj 0 _ rfl; simpa using this⟩
def fewLs (xs : List WsE) : Bool := xs.all (fun x => shortP x.l 12) && decide (xs.length ≤ 6)
theorem short_facts {l : List (Int × ByteArray)} {n : Nat} (h : shortP l n = true) : (∀ e ∈ l, e.2.size ≤ 200) ∧ l.length ≤ n := by
  unfold shortP at h
  simp only [Bool.and_eq_true, List.all_eq_true, decide_eq_true_eq] at h
  exact h
theorem fewLs_facts {xs : List WsE} (h : fewLs xs = true) : (∀ x ∈ xs, (∀ e ∈ x.l, e.2.size ≤ 200) ∧ x.l.length ≤ 12) ∧ xs.length ≤ 6 := by
  unfold fewLs at h
  simp only [Bool.and_eq_true, List.all_eq_true, decide_eq_true_eq] at h
  exact ⟨fun x hx => short_facts (h.1 x hx), h.2⟩
set_option maxRecDepth 100000 in
set_option maxHeartbeats 1000000 in
theorem few4_any (xs : List WsE) (A : Option Addr) (c : Nat) (w : World) (hat : LstsAt w w.heap.size A xs) (hl : xs.length ≤ 9223372036854775807) :
    Calls Try.prog 23 #[.slice A xs.length c] w fun e w' => e = .returned (.bool (fewLs xs)) ∧ Grew w w' := by
  have HAT := Lib.hid hat
  clear hat
  go_enter Try.func23, Try.ntmps23
  go_wp2_with fail
  go_loopg [7] xs.length (fun gk i' wr => ∃ i : Nat, i ≤ xs.length ∧ gk = xs.length - i ∧ i' = .int .i64 i ∧ Grew w wr ∧ (xs.take i).all (fun x => shortP x.l 12) = true)
  case atStart => exact ⟨0, by omega, by omega, rfl, Grew.refl _, rfl⟩
  case round =>
    obtain ⟨i, hi, hgi, rfl, hg, ht⟩ := hrel
    have HGI := Lib.hid hgi
    have HG := Lib.hid hg
    have HT := Lib.hid ht
    clear hgi hg ht
    by_cases hlt : i < xs.length
    · have hii : (i : Int) < (xs.length : Int) := by omega
      have hk := HAT.out.keep (Nat.le_refl _) HG.out
      obtain ⟨b, off, rfl, hbb, c0⟩ := ws_at hk hlt
      have hgw : w.heap.size ≤ wr.heap.size := HG.out.size
      have hwo := hk.1 _ (List.getElem_mem hlt)
      obtain ⟨⟨A1, c1, l1⟩, he⟩ : ∃ e, xs[i] = e := ⟨_, rfl⟩
      rw [he] at c0 hwo
      simp only at c0 hwo
      have HSH := Lib.hid (short_any l1 A1 c1 12 (by omega) wr (hwo.at_.mono hgw) hwo.len)
      have HE := Lib.hid he
      clear he hk hwo
      cases hb : shortP l1 12 with
      | false =>
        rw [hb] at HSH
        have HF : Hid (fewLs xs = false) := Lib.hid (by
          unfold fewLs
          rw [Bool.and_eq_false_iff]
          left
          rw [List.all_eq_false]
          exact ⟨xs[i], List.getElem_mem hlt, by rw [HE.out]; simp [hb]⟩)
        clear hb
        go_wp2_with fail
        refine HSH.out.mono ?_
        rintro e w2 ⟨rfl, g2⟩
        go_wp2_with fail
        go_ret
        exact ⟨by rw [HF.out]; rfl, HG.out.trans g2⟩
      | true =>
        rw [hb] at HSH
        have HB := Lib.hid hb
        clear hb
        go_wp2_with fail
        refine HSH.out.mono ?_
        rintro e w2 ⟨rfl, g2⟩
        have HG2 := Lib.hid (HG.out.trans g2)
        clear g2
        go_wp2_with fail
        go_roundg (xs.length - (i + 1))
        case measure => rw [HGI.out]; omega
        case rel => exact ⟨i + 1, by omega, by omega, by go_num, HG2.out, by rw [List.take_succ_eq_append_getElem hlt, List.all_append, HT.out, HE.out]; simp [HB.out]⟩
    · obtain rfl : i = xs.length := by omega
      have HE : Hid (fewLs xs = decide ((xs.length : Int) ≤ 6)) := Lib.hid (by
        have := HT.out
        rw [List.take_of_length_le (Nat.le_refl _)] at this
        unfold fewLs
        rw [this, Bool.true_and]
        exact decide_eq_decide.2 (by omega))
      go_wp2_with fail
      go_ret
      exact ⟨by rw [HE.out]; rfl, HG.out⟩
theorem fair_next {I : Img} (h0 : 0 < I.n) (l : List (Int × ByteArray)) : nextC I (fairP I.n 12 l) = I.next (fairP I.n 12 l) ∧ checkP I.n (fairP I.n 12 l) = 0 ∧ csL (I.next (fairP I.n 12 l)) = withP (csL I) (fairP I.n 12 l) ∧ (I.next (fairP I.n 12 l)).n = I.n ∧ (I.next (fairP I.n 12 l)).N ≤ I.N + 1 ∧ (fairP I.n 12 l).length ≤ 12 ∧ ∀ e ∈ fairP I.n 12 l, 0 ≤ e.1 ∧ e.1 < (I.n : Int) := by
  have hf := fair_ok (most := 12) h0 l
  have hc := hf.check (by omega)
  refine ⟨if_pos hc, hc, next_cs hc, next_n .., ?_, hf.len, fun e he => (hf.all e he).2⟩
  rw [next_N]
  split <;> omega
theorem OwnL.low {w : World} {base base' e sz : Nat} {v : Value} {rows : List (List Value)} (h : OwnL w base e sz v rows) (hb : base' ≤ base) : OwnL w base' e sz v rows := by
  refine ⟨h.1, h.2.1, ?_⟩
  rcases h.2.2 with h0 | ⟨g, cap, cur, hv, hg, hr⟩
  · exact .inl h0
  · exact .inr ⟨g, cap, cur, hv, Nat.le_trans hb hg, hr⟩
theorem Held.re {w0 W : World} {x s m : Nat} {sy ep : Int} {D : Dev} {out out' : Nat → Prop} (h : Held w0 x s m sy ep D out W) (h1 : ∀ k, out' k → out k) (hs : out' s) (hm : out' m) : Held w0 x s m sy ep D out' W := ⟨h.live.few h1, h.store, hs, hm, h.m0⟩
theorem Beside.done {w0 W w1 w2 : World} {x s m : Nat} {sy ep : Int} {D' : Dev} {out out' : Nat → Prop} (hT : Beside w0 out W w1) (hd : Done w0 x s m sy ep D' out' w1 w2) (ho : ∀ k, out k → out' k) (hm : W.heap.size ≤ m) : Beside w0 out W w2 :=
  hT.next hd.turned (fun i hi h9 => h9.elim (fun h8 => ⟨h8.1, fun h7 => h8.2 (ho i h7)⟩) (fun h8 => absurd hi (by omega)))
theorem Beside.andThen {w0 W w1 w2 : World} {out out' : Nat → Prop} (hT : Beside w0 out W w1) (hb : Beside w0 out' w1 w2) (ho : ∀ k, out k → out' k) : Beside w0 out W w2 :=
  hT.trans (hb.mono fun i _ h9 => ⟨h9.1, fun h7 => h9.2 (ho i h7)⟩)
end Go.Proofs.Ytbddelefglhaaaa
namespace Go.Proofs.Ytbddelefglhaaaa
set_option linter.unusedVariables false
set_option linter.unusedSimpArgs false
set_option linter.unusedSectionVars false
open Go.RowKit
attribute [local go_sem ↓] Go.wp_at_zero Go.wp_at_succ
theorem check_vals (n : Nat) (ws : List (Int × ByteArray)) : checkP n ws = 0 ∨ checkP n ws = 1 ∨ checkP n ws = 2 ∨ checkP n ws = 8 := by
  unfold checkP
  split
  · exact .inr (.inl rfl)
  split
  · exact .inr (.inr (.inl rfl))
  split
  · exact .inr (.inr (.inr rfl))
  · exact .inl rfl
theorem WsOk.aside {w : World} {A : Option Addr} {l : List (Int × ByteArray)} (h : WsOk w w.heap.size A l) (out : Nat → Prop) : l ≠ [] → AsideL w out A := fun hne b off e => by
  obtain ⟨b', off', e', hb, _⟩ := h.at_ (by rw [List.length_map]; exact List.length_pos_iff.2 hne)
  rw [e] at e'
  injection e' with e'
  injection e' with e1 _ _
  exact .inl (by omega)
theorem WsOk.on {w w' : World} {A : Option Addr} {l : List (Int × ByteArray)} (h : WsOk w w.heap.size A l) (hg : Grew w w') : WsOk w' w'.heap.size A l := ⟨(h.at_.keep (Nat.le_refl _) hg).mono hg.size, h.len, h.ok⟩
theorem own_at {w : World} {base e sz : Nat} {B : Option Addr} {n c : Nat} {rows : List (List Value)} (h : OwnL w base e sz (.slice B n c) rows) : ListAt w w.heap.size sz B rows := by
  obtain ⟨_, _, e1, _, _, h2⟩ := h.listAt
  injection e1 with e1 _ _
  subst e1
  exact h2
theorem img0_cs (n : Nat) : (csL (img0 n)).length = n := csL_len _
/-- The law's opening: the example, the length. -/
def Refused (ws : List (Int × ByteArray)) (n : Nat) : Prop := (checkP n ws = 0 ∧ csL (nextC (img0 n) ws) = withP (csL (img0 n)) ws ∧ (nextC (img0 n) ws).N = (if ws = [] then 1 else 2)) ∨ (checkP n ws ≠ 0 ∧ csL (nextC (img0 n) ws) = csL (img0 n) ∧ (nextC (img0 n) ws).N = 1)
theorem refused (ws : List (Int × ByteArray)) (n : Nat) : Refused ws n := by
  unfold Refused
  by_cases h : checkP n ws = 0
  · left
    have h1 : nextC (img0 n) ws = (img0 n).next ws := if_pos h
    rw [h1]
    exact ⟨h, next_cs h, next_N _ _⟩
  · right
    have h1 : nextC (img0 n) ws = img0 n := if_neg h
    rw [h1]
    exact ⟨h, rfl, rfl⟩
set_option maxRecDepth 100000 in
set_option maxHeartbeats 4000000 in
theorem pagesRefuses_any (k : Nat) (hk : k < 256) (A : Option Addr) (c : Nat) (ws : List (Int × ByteArray)) (w : World) (hat : WsOk w w.heap.size A ws) :
    Calls Try.prog 4 #[.int .u8 (k : Int), .slice A ws.length c] w fun e w' => e = .returned (.bool true) ∧ Grew w w' := by
  have HAT := Lib.hid hat
  have HSH := Lib.hid (fun (w1 : World) (g : Grew w w1) => short_any ws A c 70 (by omega) w1 (hat.on g).at_ hat.len)
  clear hat
  cases hs : shortP ws 70 with
  | false =>
    rw [hs] at HSH
    clear hs
    go_enter Try.func4, Try.ntmps4
    go_wp2_with fail
    refine (awake4_any w).mono ?_
    rintro e w1 ⟨rfl, g1⟩
    have HG1 := Lib.hid g1
    clear g1
    go_wp2_with fail
    refine (HSH.out w1 HG1.out).mono ?_
    rintro e w2 ⟨rfl, g2⟩
    have HG2 := Lib.hid (HG1.out.trans g2)
    clear g2
    go_wp2_with fail
    refine (awake4_any w2).mono ?_
    rintro e w3 ⟨rfl, g3⟩
    go_wp2_with fail
    go_ret
    exact ⟨rfl, HG2.out.trans g3⟩
  | true =>
    obtain ⟨hsz, hl70⟩ := short_facts hs
    rw [hs] at HSH
    have hn1 : 1 + k % 40 ≤ 1024 := by omega
    have HBG := Lib.hid (fun (w2 : World) => beginL_any k hk w2)
    obtain ⟨n, hn⟩ : ∃ n, 1 + k % 40 = n := ⟨_, rfl⟩
    rw [hn] at HBG hn1
    have hn0 : 1 ≤ n := by omega
    have HRF := Lib.hid (refused ws n)
    have HCV := Lib.hid (check_vals n ws)
    clear hs hsz hk hn
    go_enter Try.func4, Try.ntmps4
    go_wp2_with fail
    refine (awake4_any w).mono ?_
    rintro e w1 ⟨rfl, g1⟩
    have HG1 := Lib.hid g1
    clear g1
    go_wp2_with fail
    refine (HSH.out w1 HG1.out).mono ?_
    rintro e w2 ⟨rfl, g2⟩
    have HG2 := Lib.hid (HG1.out.trans g2)
    clear g2
    go_wp2_with fail
    refine (HBG.out w2).mono ?_
    rintro e w3 ⟨x, E, rfl, hbg⟩
    have HN := Lib.hid hbg.neat
    have HL := Lib.hid hbg.live
    clear hbg
    go_wp2_with fail
    refine (openC_any HL.out HN.out 0 (by omega)).mono ?_
    rintro e w4 ⟨s, m, rfl, hh, _, _⟩
    rw [show sysL 0 = 1 from rfl] at hh
    have HH4 := Lib.hid hh
    clear hh
    go_wp2_with fail
    refine (contents_any HH4.out HN.out.clean.idle).mono ?_
    rintro e w5 ⟨v1, rfl, ho1, hh5, _⟩
    have HO5 := Lib.hid ho1
    have HH5 := Lib.hid hh5
    have HCM := Lib.hid (commitC_any hh5 (by omega) HN.out (by show 1 < 1000; omega) ws (by omega) HAT.out.ok A c ((HAT.out.on HG2.out).on hh5.live.base).at_ ((HAT.out.on HG2.out).aside _))
    rw [show (img0 n).n = n from rfl] at HCM
    obtain ⟨ck, hck⟩ : ∃ ck, checkP n ws = ck := ⟨_, rfl⟩
    rw [hck] at HCM HCV
    have HCK := Lib.hid hck
    clear hh5 ho1 hck
    go_wp2_with fail
    refine HCM.out.mono ?_
    rintro e w6 ⟨rfl, D', hd6, hn6, _⟩
    have HO6 := Lib.hid (HO5.out.done HH5.out.store hd6 (fun q hq => .inr hq))
    have HH6 := Lib.hid (HH5.out.done hd6)
    have HN6 := Lib.hid hn6
    clear hd6 hn6
    go_wp2_with fail
    refine (contents_any HH6.out HN6.out.clean.idle).mono ?_
    rintro e w7 ⟨v2, rfl, ho2, hh7, ht7⟩
    have HO7 := Lib.hid (HO6.out.stays HH6.out.store ht7 (fun q hq => .inr hq))
    have HP7 := Lib.hid ho2
    have HH7 := Lib.hid hh7
    have hI1 : (nextC (img0 n) ws).N ≤ 2 := by
      rcases HRF.out with ⟨_, _, h9⟩ | ⟨_, _, h9⟩ <;> rw [h9]
      · split <;> omega
      · omega
    have HNU := Lib.hid (numberC_any hh7 HN6.out (by omega))
    have hcn : (nextC (img0 n) ws).n = n := nextC_n _ _
    have HCN := Lib.hid hcn
    clear ho2 hh7 ht7 hI1 hcn
    go_wp2_with fail
    refine HNU.out.mono ?_
    rintro e w8 ⟨rfl, hd8⟩
    have ho8 := HO7.out.done HH7.out.store hd8 (fun q hq => .inl (.inr hq))
    have hp8 := HP7.out.done HH7.out.store hd8 (fun q hq => .inr hq)
    obtain ⟨B1, c1, rfl, _, _, hb1⟩ := ho8.listAt
    obtain ⟨B2, c2, rfl, _, _, hb2⟩ := hp8.listAt
    rw [List.length_map, img0_cs]
    rw [List.length_map, csL_len, HCN.out]
    have HB1 := Lib.hid hb1
    have HB2 := Lib.hid hb2
    have HW8 := Lib.hid hd8.live.base
    clear ho8 hp8 hb1 hb2 hd8
    rcases HRF.out with ⟨h0, hcs, hN⟩ | ⟨h0, hcs, hN⟩
    · obtain rfl : ck = 0 := by rw [← HCK.out]; exact h0
      rw [hcs] at HB2
      rw [hN]
      have HWI := Lib.hid (withL_any (csL (img0 n)) ws B1 A c1 c w8 HB1.out ((HAT.out.on HG2.out).on HW8.out).at_ (by rw [img0_cs]; omega) (by rw [img0_cs]; omega) (by omega))
      rw [img0_cs] at HWI
      have hwl : (withP (csL (img0 n)) ws).length = n := by rw [withP_len, img0_cs]
      have HWL := Lib.hid hwl
      obtain ⟨kn, hkn⟩ : ∃ kn : Nat, (if ws = [] then 1 else 2) = kn := ⟨_, rfl⟩
      rw [hkn]
      have hkm : (kn : Int) = 1 + min 1 (ws.length : Int) := by
        rw [← hkn]
        by_cases hws : ws = []
        · rw [if_pos hws, hws]; rfl
        · have := List.length_pos_iff.2 hws
          rw [if_neg hws]; omega
      have HKM := Lib.hid hkm
      clear h0 hcs hN hwl hkn hkm
      go_wp2_with fail
      refine HWI.out.mono ?_
      rintro e w9 ⟨v3, rfl, ho3, g9⟩
      obtain ⟨B3, c3, rfl, _, _, hb3⟩ := ho3.listAt
      rw [List.length_map]
      have HEQ := Lib.hid (equalL_any (withP (csL (img0 n)) ws) (withP (csL (img0 n)) ws) B2 B3 c2 c3 w9 (listAt_on HB2.out g9) hb3 (by rw [HWL.out]; omega) (by rw [HWL.out]; omega))
      rw [decide_eq_true rfl, HWL.out] at HEQ
      rw [HWL.out]
      have HW9 := Lib.hid (HW8.out.trans g9)
      clear ho3 hb3 g9
      go_wp2_with fail
      refine HEQ.out.mono ?_
      rintro e w10 ⟨rfl, g10⟩
      have HW10 := Lib.hid (HG2.out.trans (HW9.out.trans g10))
      clear g10
      go_wp2_with fail
      go_ret
      exact ⟨by show Ending.returned (.bool ((kn : Int) == 1 + min 1 (ws.length : Int))) = _; rw [beq_iff_eq.2 HKM.out], HW10.out⟩
    · have hc1 : (ck == 0) = false := by rw [beq_eq_false_iff_ne, ← HCK.out]; exact h0
      rw [hcs] at HB2
      rw [hN]
      have HEQ := Lib.hid (equalL_any (csL (img0 n)) (csL (img0 n)) B2 B1 c2 c1 w8 HB2.out HB1.out (by rw [img0_cs]; omega) (by rw [img0_cs]; omega))
      rw [decide_eq_true rfl, img0_cs] at HEQ
      have hck1 := HCV.out.resolve_left (by rw [← HCK.out]; exact h0)
      clear h0 hcs hN
      rcases hck1 with rfl | rfl | rfl
      all_goals
        clear hc1
        go_wp2_with fail
        refine HEQ.out.mono ?_
        rintro e w9 ⟨rfl, g9⟩
        have HW9 := Lib.hid (HG2.out.trans (HW8.out.trans g9))
        clear g9
        go_wp2_with fail
        go_ret
        exact ⟨rfl, HW9.out⟩
end Go.Proofs.Ytbddelefglhaaaa
namespace Go.Proofs.Ytbddelefglhaaaa
set_option linter.unusedVariables false
set_option linter.unusedSimpArgs false
set_option linter.unusedSectionVars false
open Go.ChangeShapes Go.WideShapes Go.ChangeAt Go.RowKit Go.Deep
section
variable {H : Type} {enc : TypeId × Value → H} {P : Program} {w : World}
theorem open_listF {α : Type} [Inhabited α] {t e : Nat} {sz fuel : Nat} {v : Value} {x0 : DataW H × List MemPlace} (ht : P.underlying t = some (.slice e)) (hsz : P.cellsOf e = sz) (hpos : 0 < sz) (f : α → List Value) (Pr : α → Prop)
    (hel : ∀ n cs y, cs.length = sz → DataW.trod enc P w 0 (fun _ => true) true n e cs = some y → ∃ a, Pr a ∧ cs = f a)
    (hf : DataW.trod enc P w 0 (fun _ => true) true fuel t [v] = some x0) :
    ∃ A c, ∃ l : List α, v = .slice A l.length c ∧ l.length ≤ c ∧ c ≤ 9223372036854775807 ∧ (∀ a ∈ l, Pr a) ∧ ListAt w w.heap.size sz A (l.map f) := by
  obtain ⟨A, n, c, rfl⟩ : ∃ A n c, v = .slice A n c := by
    rcases open_slice ht hf with ⟨h0, _⟩ | ⟨a, len, cap, m, n', D, Pl, hcs, _⟩
    · exact ⟨none, 0, 0, by injection h0⟩
    · exact ⟨some a, len, cap, by injection hcs⟩
  rcases open_slice ht hf with ⟨h0, _⟩ | ⟨a, len, cap, m, n', D, Pl, hcs, hb, hl, hm, hmm, hx, hi⟩
  · simp only [List.cons.injEq, and_true] at h0
    injection h0 with h1 h2 h3
    subst h1; subst h2; subst h3
    exact ⟨none, 0, [], rfl, by simp, by simp, by simp, fun h => absurd h (by simp)⟩
  · simp only [List.cons.injEq, and_true] at hcs
    injection hcs with h1 h2 h3
    subst h1; subst h2; subst h3
    rw [if_pos rfl] at hmm
    have hlm : n ≤ m := by omega
    have each : ∀ i, i < n → ∃ x : α, Pr x ∧ ∃ cs, cs = f x ∧ cs.length = sz ∧ w.cells? 0 (a.add (i * sz)) sz = some cs := fun i hin => by
      obtain ⟨cs', hc, ht'⟩ := hi i (by omega)
      rw [hsz] at hc
      have hlen := (World.cells?_some hc).2.1
      obtain ⟨x, hp, hcs⟩ := hel n' cs' _ hlen ht'
      exact ⟨x, hp, cs', hcs, hlen, hc⟩
    obtain ⟨g, hg⟩ := choose_lt each
    refine ⟨some a, c, (List.range n).map g, by simp, by simpa using hl, by unfold maxLen at hm; simpa using hm, ?_, fun h0 => ?_⟩
    · intro x hx
      rw [List.mem_map] at hx
      obtain ⟨i, hi', rfl⟩ := hx
      exact (hg i (List.mem_range.1 hi')).1
    · have hn : 0 < n := by simpa using h0
      obtain ⟨_, cs0, hcs0, hlen0, hc0⟩ := hg 0 hn
      have h1 := (World.cells?_some hc0).2.2 0 hpos
      rw [Nat.zero_mul] at h1
      have hv0 : cs0[0]? = some cs0[0] := List.getElem?_eq_getElem (by omega)
      have ha : (a.add 0).add 0 = a := by simp [Addr.add]
      rw [ha, hv0] at h1
      obtain ⟨hlt, hsp⟩ := cell_lt h1
      obtain ⟨b, off, sp⟩ := a
      simp only at hsp hlt
      subst hsp
      refine ⟨b, off, rfl, hlt, fun j cs hj i v hiv => ?_⟩
      have hjn : j < n := by
        rcases Nat.lt_or_ge j n with h | h
        · exact h
        · rw [List.getElem?_eq_none (by simpa using h)] at hj; cases hj
      obtain ⟨_, cs1, hcs1, hlen1, hc1⟩ := hg j hjn
      have hcs : cs = cs1 := by
        simp [List.getElem?_map, List.getElem?_range, hjn] at hj
        rw [← hj, hcs1]
      subst hcs
      have hil : i < sz := by
        rcases Nat.lt_or_ge i cs.length with h | h
        · omega
        · rw [List.getElem?_eq_none h] at hiv; cases hiv
      have h2 := (World.cells?_some hc1).2.2 i hil
      rw [add_plain, add_plain] at h2
      rw [h2, hiv]
end
end Go.Proofs.Ytbddelefglhaaaa
namespace Go.Proofs.Ytbddelefglhaaaa
set_option linter.unusedVariables false
set_option linter.unusedSimpArgs false
set_option linter.unusedSectionVars false
open Go.RowKit Go.ChangeShapes Go.WideShapes Go.ChangeAt Go.Deep
theorem wf_i64p {x : Int} (h : Lit.wf (.int .i64 x) = true) : okI x := by
  simp only [Lit.wf, IntKind.min, IntKind.max, IntKind.signed, IntKind.bits] at h
  unfold okI
  simp at h
  omega
section
variable {H : Type} {enc : TypeId × Value → H} {w : World}
set_option maxRecDepth 100000 in
theorem open_swC {n : Nat} {cs : List Value} {y : DataW H × List MemPlace} (hlen : cs.length = 2) (h : DataW.trod enc Try.prog w 0 (fun _ => true) true n 72 cs = some y) : ∃ e : Int × ByteArray, okI e.1 ∧ cs = entC e := by
  have hf := struct_fields Try.underlying72 (by kernel_rfl) h
  obtain ⟨v0, _, _, e0, f0⟩ := hf 0 _ rfl (by omega)
  obtain ⟨v1, _, _, e1, f1⟩ := hf 1 _ rfl (by omega)
  obtain ⟨n0, hn0, _, w0⟩ := DataW.trod_int Try.underlying3 f0
  obtain ⟨n1, hn1, _, w1⟩ := DataW.trod_string Try.underlying9 f1
  injection hn0 with hn0 _
  injection hn1 with hn1 _
  subst hn0; subst hn1
  refine ⟨(n0, n1), wf_i64p w0, ?_⟩
  match cs, hlen with
  | [x0, x1], _ =>
    simp at e0 e1
    rw [e0, e1]
    rfl
set_option maxRecDepth 100000 in
theorem open_ws {r : Reach} {b0 : Nat} {v : Value} {d : DataW H} {ps : List MemPlace} (hv : Value.okWide Try.prog w r b0 29 v) (hd : DataW.Trod enc Try.prog w 0 (fun _ => true) true 29 v d ps) :
    ∃ A c, ∃ l : List (Int × ByteArray), v = .slice A l.length c ∧ l.length ≤ c ∧ c ≤ 9223372036854775807 ∧ WsOk w w.heap.size A l := by
  obtain ⟨A, c, l, rfl, h1, h2, h3, h4⟩ := open_list (α := Int × ByteArray) (sz := 2) Try.underlying29 (by kernel_rfl) (by omega) entC (fun e => okI e.1) (fun n cs y hlen h => open_swC hlen h) hv hd
  exact ⟨A, c, l, rfl, h1, h2, h4, Nat.le_trans h1 h2, h3⟩
set_option maxRecDepth 100000 in
theorem open_lsts {r : Reach} {b0 : Nat} {v : Value} {d : DataW H} {ps : List MemPlace} (hv : Value.okWide Try.prog w r b0 46 v) (hd : DataW.Trod enc Try.prog w 0 (fun _ => true) true 46 v d ps) :
    ∃ A c, ∃ l : List WsE, v = .slice A l.length c ∧ l.length ≤ c ∧ c ≤ 9223372036854775807 ∧ LstsAt w w.heap.size A l := by
  obtain ⟨A, c, l, rfl, h1, h2, h3, h4⟩ := open_list (α := WsE) (sz := 1) Try.underlying46 (by kernel_rfl) (by omega) wsC (fun x => WsOk w w.heap.size x.A x.l) (fun n cs y hlen h => by
    match cs, hlen with
    | [u], _ =>
      obtain ⟨A1, c1, l1, rfl, g1, g2, g3, g4⟩ := open_listF (α := Int × ByteArray) (sz := 2) Try.underlying29 (by kernel_rfl) (by omega) entC (fun e => okI e.1) (fun n cs y hlen h => open_swC hlen h) h
      exact ⟨⟨A1, c1, l1⟩, ⟨g4, Nat.le_trans g1 g2, g3⟩, rfl⟩) hv hd
  exact ⟨A, c, l, rfl, h1, h2, h3, h4⟩
set_option maxRecDepth 100000 in
theorem open_ints4 {r : Reach} {b0 : Nat} {v : Value} {d : DataW H} {ps : List MemPlace} (hv : Value.okWide Try.prog w r b0 54 v) (hd : DataW.Trod enc Try.prog w 0 (fun _ => true) true 54 v d ps) :
    ∃ A c, ∃ l : List Int, v = .slice A l.length c ∧ l.length ≤ c ∧ c ≤ 9223372036854775807 ∧ (∀ n ∈ l, okI n) ∧ ListAt w w.heap.size 1 A (l.map intC) := by
  obtain ⟨A, c, l, rfl, h1, h2, h3, h4⟩ := open_list (α := Int) (sz := 1) Try.underlying54 (by kernel_rfl) (by omega) intC okI (fun n cs y hlen h => by
      match cs, hlen with
      | [v], _ =>
        obtain ⟨n0, hn0, _, w0⟩ := DataW.trod_int Try.underlying3 h
        injection hn0 with hn0 _
        subst hn0
        exact ⟨n0, wf_i64p w0, rfl⟩) hv hd
  exact ⟨A, c, l, rfl, h1, h2, h3, h4⟩
end
end Go.Proofs.Ytbddelefglhaaaa
namespace Go.Proofs.Ytbddelefglhaaaa
set_option linter.unusedVariables false
set_option linter.unusedSimpArgs false
set_option linter.unusedSectionVars false
open Go.RowKit
attribute [local go_sem ↓] Go.wp_at_zero Go.wp_at_succ
theorem write_out {D : Dev} {sy ep i : Int} {s : ByteArray} (h1 : D.failed = false) (hp : plainW sy ep = true) (hs : s.size = 140) (ht : thereD D i = true) (hf : ep < D.fen sy) : writeD D sy ep i s = (D, 13) := by
  unfold writeD
  rw [if_neg (by rw [hp]; simp [hs]), if_neg (by rw [ht]; simp)]
  have : admitD D sy ep = (D, 13) := by
    unfold admitD
    rw [if_neg (by rw [h1]; simp), if_pos hf]
  rw [this, if_pos (by simp)]
/-- A fenced commit does nothing. -/
theorem fenced_run {D : Dev} {l : Wl} {v : U32} {sy ep : Int} (he : Entries D.st.length l v) (h1 : D.failed = false) (hp : plainW sy ep = true) (hf : ep < D.fen sy) : runS sy ep (commitS l v) D = (D, 13) := by
  have hpos := he.pos
  have hlow := he.low
  have hlim := he.lim
  obtain ⟨e, t, hl⟩ : ∃ e t, slotsW l = e :: t := by
    cases hq : slotsW l with
    | nil => have := slotsW_len l; rw [hq] at this; simp at this; omega
    | cons e t => exact ⟨e, t, rfl⟩
  have hm : e ∈ slotsW l := by rw [hl]; exact List.mem_cons_self ..
  obtain ⟨h2, h3⟩ := slotsW_ok he e hm
  have hw : writeD D sy ep (e.1 : Int) e.2 = (D, 13) := write_out h1 hp h3 (by unfold thereD; exact decide_eq_true ⟨by omega, by omega⟩) hf
  have hc : commitS l v = .put (e.1 : Int) e.2 :: (puts t ++ [.sync] ++ ((puts [(33, headR l v)] ++ [.sync]) ++ ((puts l ++ [.sync]) ++ (puts [(33, blankR)] ++ [.sync])))) := by
    unfold commitS
    rw [hl]
    rfl
  rw [hc]
  show (if (writeD D sy ep (e.1 : Int) e.2).2 = 0 then _ else writeD D sy ep (e.1 : Int) e.2) = _
  rw [hw, if_neg (by simp)]
theorem fence_clean {D : Dev} {I : Img} (h : Clean D I) (sy ep : Int) : Clean (fenceD D sy ep) I := by
  unfold fenceD
  split
  · exact h
  · refine ⟨⟨⟨h.ok.len, h.ok.pos, h.ok.lim, h.ok.st, h.ok.old, h.ok.pend, fun s => ?_⟩, h.img, h.len, h.live, h.pend, h.top, h.map, h.dat⟩, h.head⟩
    have := h.ok.fen s
    have h2 := h.ok.fen sy
    show 0 ≤ (if s = sy then max (D.fen sy) (clipE ep) else D.fen s) ∧ (if s = sy then max (D.fen sy) (clipE ep) else D.fen s) ≤ _
    unfold clipE
    split
    · split <;> omega
    · exact this
theorem fence_one {D : Dev} {I : Img} (h : Neat D I) : (0 : Int) < (fenceD D 1 0).fen 1 ∧ (fenceD D 1 0).fen 2 = 0 ∧ (fenceD D 1 0).fuse = none := by
  unfold fenceD
  rw [if_neg (by omega)]
  refine ⟨?_, ?_, h.fuse⟩
  · show (0 : Int) < (if (1 : Int) = 1 then max (D.fen 1) (clipE 0) else D.fen 1)
    rw [h.fen]
    decide
  · show (if (2 : Int) = 1 then max (D.fen 1) (clipE 0) else D.fen 2) = 0
    rw [h.fen]
    decide
theorem Held.kept {w0 W W' : World} {x s m : Nat} {sy ep : Int} {D D' : Dev} {out out' : Nat → Prop} (h : Held w0 x s m sy ep D out W) (hl : Live w0 x D' out' W') (hb : Beside w0 out W W') (ho : ∀ k, out k → out' k) : Held w0 x s m sy ep D' out' W' :=
  ⟨hl, h.store.kept hb (fun hk => hk.2 h.os) (fun hk => hk.2 h.om), ho _ h.os, ho _ h.om, h.m0⟩
/-- A store beside one whose contents were read. -/
theorem Held.seen {w0 W W' : World} {x s m s2 m2 : Nat} {sy ep sy2 ep2 : Int} {D D' : Dev} {out out' : Nat → Prop} (h : Held w0 x s2 m2 sy2 ep2 D out W) (hd : Held w0 x s m sy ep D' out' W') (ht : Turned (fun k => (w0.heap.size ≤ k ∧ ¬ out k) ∨ k = m) W W') (ho : ∀ k, out k → out' k) (hne : ¬ s2 = m ∧ ¬ m2 = m) : Held w0 x s2 m2 sy2 ep2 D' out' W' :=
  ⟨hd.live, h.store.kept ht (fun h9 => h9.elim (fun h8 => h8.2 h.os) hne.1) (fun h9 => h9.elim (fun h8 => h8.2 h.om) hne.2), ho _ h.os, ho _ h.om, h.m0⟩
set_option maxRecDepth 100000 in
set_option maxHeartbeats 4000000 in
theorem pagesFenced_any (k : Nat) (hk : k < 256) (A : Option Addr) (c : Nat) (ws : List (Int × ByteArray)) (w : World) (hat : WsOk w w.heap.size A ws) :
    Calls Try.prog 7 #[.int .u8 (k : Int), .slice A ws.length c] w fun e w' => e = .returned (.bool true) ∧ Grew w w' := by
  have HAT := Lib.hid hat
  have HSH := Lib.hid (fun (w1 : World) (g : Grew w w1) => short_any ws A c 12 (by omega) w1 (hat.on g).at_ hat.len)
  clear hat
  cases hs : shortP ws 12 with
  | false =>
    rw [hs] at HSH
    clear hs
    go_enter Try.func7, Try.ntmps7
    go_wp2_with fail
    refine (awake4_any w).mono ?_
    rintro e w1 ⟨rfl, g1⟩
    have HG1 := Lib.hid g1
    clear g1
    go_wp2_with fail
    refine (HSH.out w1 HG1.out).mono ?_
    rintro e w2 ⟨rfl, g2⟩
    have HG2 := Lib.hid (HG1.out.trans g2)
    clear g2
    go_wp2_with fail
    refine (awake4_any w2).mono ?_
    rintro e w3 ⟨rfl, g3⟩
    go_wp2_with fail
    go_ret
    exact ⟨rfl, HG2.out.trans g3⟩
  | true =>
    obtain ⟨hsz, hl12⟩ := short_facts hs
    rw [hs] at HSH
    have hn1 : 1 + k % 40 ≤ 1024 := by omega
    have HBG := Lib.hid (fun (w2 : World) => beginL_any k hk w2)
    obtain ⟨n, hn⟩ : ∃ n, 1 + k % 40 = n := ⟨_, rfl⟩
    rw [hn] at HBG hn1
    have hn0 : 1 ≤ n := by omega
    have HSZ := Lib.hid hsz
    obtain ⟨_, q2, q3, q4, q5, q6, q7⟩ := fair_next (I := img0 n) hn0 ws
    rw [show (img0 n).n = n from rfl] at q2 q3 q4 q5 q6 q7
    obtain ⟨fl, hfl⟩ : ∃ fl, fairP n 12 ws = fl := ⟨_, rfl⟩
    rw [hfl] at q2 q3 q4 q5 q6 q7
    have HFL := Lib.hid hfl
    have HQ2 := Lib.hid q2
    have HQ3 := Lib.hid q3
    have HQ7 := Lib.hid q7
    clear hs hsz hk hn hfl q2 q3 q4 q5 q7
    go_enter Try.func7, Try.ntmps7
    go_wp2_with fail
    refine (awake4_any w).mono ?_
    rintro e w1 ⟨rfl, g1⟩
    have HG1 := Lib.hid g1
    clear g1
    go_wp2_with fail
    refine (HSH.out w1 HG1.out).mono ?_
    rintro e w2 ⟨rfl, g2⟩
    have HG2 := Lib.hid (HG1.out.trans g2)
    clear g2
    go_wp2_with fail
    refine (HBG.out w2).mono ?_
    rintro e w3 ⟨x, E, rfl, hbg⟩
    have HN := Lib.hid hbg.neat
    have HL := Lib.hid hbg.live
    clear hbg
    go_wp2_with fail
    refine (openC_any HL.out HN.out 0 (by omega)).mono ?_
    rintro e w4 ⟨s1, m1, rfl, hh, _, _⟩
    rw [show sysL 0 = 1 from rfl] at hh
    have HA4 := Lib.hid hh
    clear hh
    go_wp2_with fail
    refine (openC_any HA4.out.live HN.out 1 (by omega)).mono ?_
    rintro e w5 ⟨s2, m2, rfl, hh, hsz, hb⟩
    rw [show sysL 1 = 2 from rfl] at hh
    have ha5 := HA4.out.kept hh.live hb (fun q hq => .inl hq)
    have hlt := HA4.out.store.lt
    have HA5 := Lib.hid ha5
    have HB5 := Lib.hid hh
    have HNE := Lib.hid (show ((¬ s1 = m2 ∧ ¬ m1 = m2) ∧ (¬ s2 = m1 ∧ ¬ m2 = m1)) from ⟨⟨by omega, by omega⟩, by omega, by omega⟩)
    clear hh hsz hb ha5 hlt
    go_wp2_with fail
    refine (contents_any HB5.out HN.out.clean.idle).mono ?_
    rintro e w6 ⟨v1, rfl, ho1, hh6, ht6⟩
    have ha6 := HA5.out.seen hh6 ht6 (fun q hq => .inl hq) HNE.out.1
    obtain ⟨B1, c1, rfl, _, _, _⟩ := ho1.listAt
    rw [List.length_map, img0_cs] at ho1 hh6 ha6 ⊢
    have HA6 := Lib.hid ha6
    have HB6 := Lib.hid hh6
    have HO6 := Lib.hid ho1
    have hw6 := (HAT.out.on HG2.out).on hh6.live.base
    have HFA := Lib.hid (fair_any ws A c n 12 ⟨hn0, hn1⟩ (by omega) w6 hw6.at_ (by omega) hw6.ok (fun e he => by have := HSZ.out e he; omega))
    rw [HFL.out] at HFA
    clear ho1 hh6 ht6 ha6 hw6
    go_wp2_with fail
    refine HFA.out.mono ?_
    rintro e w7 ⟨vf, rfl, hof, gf⟩
    have hb7 := HB6.out.also_new (v := vf) gf (fun q hq => hof.own_ge hq)
    have ho7 := HO6.out.grew gf
    have ha7 := HA6.out.also_new (v := vf) gf (fun q hq => hof.own_ge hq)
    obtain ⟨Bv, cv, rfl, _, _, _⟩ := hof.listAt
    rw [List.length_map] at hof hb7 ha7 ⊢
    have HA7 := Lib.hid ha7
    have HB7 := Lib.hid hb7
    have HO7 := Lib.hid ho7
    have HF7 := Lib.hid hof
    have HG7 := Lib.hid hb7.live.base
    clear gf hb7 ho7 ha7 hof
    by_cases hfe : fl = []
    · have hf0 : fl.length = 0 := by rw [hfe]; rfl
      have HF0 : Hid (((fl.length : Int) == 0) = true) := Lib.hid (by rw [hf0]; rfl)
      have hf0 := HF0.out
      clear hfe hf0
      have hf0 := HF0.out
      go_wp2_with fail
      go_ret
      exact ⟨rfl, HG2.out.trans HG7.out⟩
    · have hfp := List.length_pos_iff.2 hfe
      have hf0 : ((fl.length : Int) == 0) = false := by rw [beq_eq_false_iff_ne]; omega
      have HFE := Lib.hid hfe
      clear hfe hfp
      have HFN := Lib.hid (fence_live HB7.out.live 1 0 (by unfold okI; omega) (by unfold okI; omega))
      go_wp2_with fail
      refine HFN.out.mono ?_
      rintro e w8 ⟨rfl, hl8, hbs8⟩
      have hcl8 := fence_clean HN.out.clean 1 0
      obtain ⟨z1, z2, z3⟩ := fence_one HN.out
      obtain ⟨F, hF⟩ : ∃ F, fenceD E 1 0 = F := ⟨_, rfl⟩
      rw [hF] at hl8 hcl8 z1 z2 z3
      have ha8 := HA7.out.kept hl8 hbs8 (fun q hq => hq)
      have hb8 := HB7.out.kept hl8 hbs8 (fun q hq => hq)
      have ho8 := HO7.out.beside hbs8 (fun q hq => .inl (.inr hq))
      have hf8 := HF7.out.beside hbs8 (fun q hq => .inr hq)
      obtain ⟨y1, y2, y3, y4, y5⟩ := commitP_is (sy := 1) (ep := 0) hcl8 fl (by show 1 + 1 < _; omega) HQ2.out HFE.out
      have hEnt : Entries F.st.length (entG F (sortW (img0 n).n fl) (nv ((img0 n).N + 1))) (nv ((img0 n).N + 1)) := by
        have ht := takes_of (img0 n) fl HQ2.out HFE.out (by show 1 + 1 < _; omega)
        have := entL_ok hcl8.img ht
        rw [← hcl8.len, ← entG_is hcl8.toHolds ht] at this
        exact this
      have hrun := fenced_run (sy := 1) (ep := 0) hEnt hcl8.live (by decide) z1
      have HCM := Lib.hid (commit_any ha8 (by have := hcl8.len; have : (img0 n).n = n := rfl; omega) (by rw [hcl8.pend]; simp) F false (finD_clean hcl8 1 0) (img0 n).n (by rw [hcl8.len]; omega) fl (fun e he => by have := HQ7.out e he; unfold okI; omega) Bv cv (own_at hf8) (fun b off e => .inr (.inr (by rw [e]; rfl))) HQ2.out HFE.out y2 _ rfl y3 _ y4 y5)
      rw [hrun] at HCM
      have HB8 := Lib.hid hb8
      have HA8 := Lib.hid ha8
      have HO8 := Lib.hid ho8
      have HF8 := Lib.hid hf8
      have HC8 := Lib.hid hcl8
      have HZ := Lib.hid (And.intro z2 z3)
      clear hl8 hbs8 hcl8 z1 z2 z3 hF ha8 hb8 ho8 hf8 y1 y2 y3 y4 y5 hEnt hrun
      go_wp2_with fail
      refine HCM.out.mono ?_
      rintro e w9 ⟨rfl, hd9⟩
      have HB9 := Lib.hid (HB8.out.other hd9 HNE.out.2)
      have HA9 := Lib.hid (HA8.out.done hd9)
      have HO9 := Lib.hid (HO8.out.done HA8.out.store hd9 (fun q hq => .inl (.inr hq)))
      have HF9 := Lib.hid (HF8.out.done HA8.out.store hd9 (fun q hq => .inr hq))
      clear hd9
      go_wp2_with fail
      refine (contents_any HB9.out HC8.out.idle).mono ?_
      rintro e wa ⟨v2, rfl, ho2, hh, ht⟩
      have haa := HA9.out.seen hh ht (fun q hq => .inl hq) HNE.out.1
      have hoa := HO9.out.stays HB9.out.store ht (fun q hq => .inl (.inr hq))
      have hfa := HF9.out.stays HB9.out.store ht (fun q hq => .inr hq)
      obtain ⟨B2, c2, rfl, _, _, hb2⟩ := ho2.listAt
      rw [List.length_map, img0_cs] at hh haa ⊢
      have HEQ := Lib.hid (equalL_any (csL (img0 n)) (csL (img0 n)) B2 B1 c2 c1 wa hb2 (own_at hoa) (by rw [img0_cs]; omega) (by rw [img0_cs]; omega))
      rw [decide_eq_true rfl, img0_cs] at HEQ
      have HBa := Lib.hid hh
      have HAa := Lib.hid haa
      have HOa := Lib.hid hoa
      have HFa := Lib.hid hfa
      clear ho2 hh ht haa hoa hfa hb2
      go_wp2_with fail
      refine HEQ.out.mono ?_
      rintro e wb ⟨rfl, gb⟩
      have hbb := HBa.out.grew gb
      have hab := HAa.out.grew gb
      have hob := HOa.out.grew gb
      have hfb := HFa.out.grew gb
      have HCB := Lib.hid (commitG_any hbb HC8.out ⟨HC8.out.ok, HC8.out.live, by decide, by rw [HZ.out.1]; omega⟩ HZ.out.2 (by show 1 < 1000; omega) fl (by omega) (fun e he => by have := HQ7.out e he; unfold okI; omega) Bv cv (own_at hfb) (fun _ b off e => .inr (.inl (.inr (by rw [e]; rfl)))))
      rw [show checkP (img0 n).n fl = 0 from HQ2.out, show nextC (img0 n) fl = (img0 n).next fl from if_pos HQ2.out] at HCB
      have HBb := Lib.hid hbb
      have HAb := Lib.hid hab
      have HOb := Lib.hid hob
      have HFb := Lib.hid hfb
      clear gb hbb hab hob hfb
      go_wp2_with fail
      refine HCB.out.mono ?_
      rintro e wc ⟨rfl, D2, hd, hc2, _, _, _⟩
      have HAc := Lib.hid (HAb.out.other hd HNE.out.1)
      have HOc := Lib.hid (HOb.out.done HBb.out.store hd (fun q hq => .inl (.inl (.inr hq))))
      have HFc := Lib.hid (HFb.out.done HBb.out.store hd (fun q hq => .inl (.inr hq)))
      have HC2 := Lib.hid hc2
      clear hd hc2
      go_wp2_with fail
      refine (contents_any HAc.out HC2.out.idle).mono ?_
      rintro e wd ⟨v3, rfl, ho3, hh, ht⟩
      have hod := HOc.out.stays HAc.out.store ht (fun q hq => .inl (.inl (.inr hq)))
      have hfd := HFc.out.stays HAc.out.store ht (fun q hq => .inl (.inr hq))
      have hl3 : (csL ((img0 n).next fl)).length = n := by rw [csL_len, next_n]; rfl
      obtain ⟨B3, c3, rfl, _, _, hb3⟩ := ho3.listAt
      rw [List.length_map, hl3] at hh ⊢
      have HWI := Lib.hid (withL_any (csL (img0 n)) fl B1 Bv c1 cv wd (own_at hod) (own_at hfd) (by rw [img0_cs]; omega) (by rw [img0_cs]; omega) (by omega))
      rw [img0_cs, ← HQ3.out] at HWI
      have HL3 := Lib.hid hl3
      have HB3 := Lib.hid hb3
      have HGd := Lib.hid hh.live.base
      clear ho3 hh ht hod hfd hl3 hb3
      go_wp2_with fail
      refine HWI.out.mono ?_
      rintro e we ⟨v4, rfl, ho4, g4⟩
      obtain ⟨B4, c4, rfl, _, _, hb4⟩ := ho4.listAt
      rw [List.length_map, HL3.out]
      have HEQ2 := Lib.hid (equalL_any (csL ((img0 n).next fl)) (csL ((img0 n).next fl)) B3 B4 c3 c4 we (listAt_on HB3.out g4) hb4 (by rw [HL3.out]; omega) (by rw [HL3.out]; omega))
      rw [decide_eq_true rfl, HL3.out] at HEQ2
      have HGe := Lib.hid (HGd.out.trans g4)
      clear ho4 g4 hb4
      go_wp2_with fail
      refine HEQ2.out.mono ?_
      rintro e wf ⟨rfl, gf⟩
      have HGf := Lib.hid (HG2.out.trans (HGe.out.trans gf))
      clear gf
      go_wp2_with fail
      go_ret
      exact ⟨rfl, HGf.out⟩
end Go.Proofs.Ytbddelefglhaaaa
namespace Go.Proofs.Ytbddelefglhaaaa
set_option linter.unusedVariables false
set_option linter.unusedSimpArgs false
set_option linter.unusedSectionVars false
open Go.RowKit
attribute [local go_sem ↓] Go.wp_at_zero Go.wp_at_succ
theorem LstsAt.on {w w' : World} {A : Option Addr} {xs : List WsE} (h : LstsAt w w.heap.size A xs) (hg : Grew w w') : LstsAt w' w'.heap.size A xs := ⟨fun x hx => ⟨((h.1 x hx).at_.keep (Nat.le_refl _) hg).mono hg.size, (h.1 x hx).len, (h.1 x hx).ok⟩, (h.2.keep (Nat.le_refl _) hg).mono hg.size⟩
theorem fair_N {I : Img} (l : List (Int × ByteArray)) : ((I.next l).N : Int) = if l.length = 0 then (I.N : Int) else (I.N : Int) + 1 := by
  rw [next_N]
  by_cases h : l = []
  · rw [if_pos h, h]; rfl
  · rw [if_neg h, if_neg (by have := List.length_pos_iff.2 h; omega)]; omega
set_option maxRecDepth 100000 in
set_option maxHeartbeats 8000000 in
theorem pagesShared_any (k : Nat) (hk : k < 256) (A : Option Addr) (c : Nat) (xs : List WsE) (w : World) (hat : LstsAt w w.heap.size A xs) (hxl : xs.length ≤ 9223372036854775807) :
    Calls Try.prog 5 #[.int .u8 (k : Int), .slice A xs.length c] w fun e w' => e = .returned (.bool true) ∧ Grew w w' := by
  have HAT := Lib.hid hat
  have HSH := Lib.hid (fun (w1 : World) (g : Grew w w1) => few4_any xs A c w1 (hat.on g) hxl)
  clear hat
  cases hs : fewLs xs with
  | false =>
    rw [hs] at HSH
    clear hs
    go_enter Try.func5, Try.ntmps5
    go_wp2_with fail
    refine (awake4_any w).mono ?_
    rintro e w1 ⟨rfl, g1⟩
    have HG1 := Lib.hid g1
    clear g1
    go_wp2_with fail
    refine (HSH.out w1 HG1.out).mono ?_
    rintro e w2 ⟨rfl, g2⟩
    have HG2 := Lib.hid (HG1.out.trans g2)
    clear g2
    go_wp2_with fail
    refine (awake4_any w2).mono ?_
    rintro e w3 ⟨rfl, g3⟩
    go_wp2_with fail
    go_ret
    exact ⟨rfl, HG2.out.trans g3⟩
  | true =>
    obtain ⟨hfs, hx6⟩ := fewLs_facts hs
    rw [hs] at HSH
    have hn1 : 1 + k % 40 ≤ 1024 := by omega
    have HBG := Lib.hid (fun (w2 : World) => beginL_any k hk w2)
    obtain ⟨n, hn⟩ : ∃ n, 1 + k % 40 = n := ⟨_, rfl⟩
    rw [hn] at HBG hn1
    have hn0 : 1 ≤ n := by omega
    have HFS := Lib.hid hfs
    have HWT := Lib.hid (fun (W : World) => writerL_any 0 (by omega) W)
    have HWT1 := Lib.hid (fun (W : World) => writerL_any 1 (by omega) W)
    rw [show sysL 0 = 1 from rfl] at HWT
    rw [show sysL 1 = 2 from rfl] at HWT1
    clear hs hfs hk hn hxl
    go_enter Try.func5, Try.ntmps5
    go_wp2_with fail
    refine (awake4_any w).mono ?_
    rintro e w1 ⟨rfl, g1⟩
    have HG1 := Lib.hid g1
    clear g1
    go_wp2_with fail
    refine (HSH.out w1 HG1.out).mono ?_
    rintro e w2 ⟨rfl, g2⟩
    have HG2 := Lib.hid (HG1.out.trans g2)
    clear g2
    go_wp2_with fail
    refine (HBG.out w2).mono ?_
    rintro e w3 ⟨x, E, rfl, hbg⟩
    have HN := Lib.hid hbg.neat
    have HL := Lib.hid hbg.live
    clear hbg
    go_wp2_with fail
    refine (openC_any HL.out HN.out 0 (by omega)).mono ?_
    rintro e w4 ⟨s1, m1, rfl, hh, _, _⟩
    rw [show sysL 0 = 1 from rfl] at hh
    have HA4 := Lib.hid hh
    clear hh
    go_wp2_with fail
    refine (openC_any HA4.out.live HN.out 1 (by omega)).mono ?_
    rintro e w5 ⟨s2, m2, rfl, hh, hsz, hb⟩
    rw [show sysL 1 = 2 from rfl] at hh
    have ha5 := HA4.out.kept hh.live hb (fun q hq => .inl hq)
    have hlt := HA4.out.store.lt
    obtain ⟨oz, hoz⟩ : ∃ oz : Nat → Prop, oz = (fun q => (False ∨ q = s1 ∨ q = m1) ∨ q = s2 ∨ q = m2) := ⟨_, rfl⟩
    rw [← hoz] at hh ha5
    have HOZ := Lib.hid (show (oz s1 ∧ oz m1) ∧ oz s2 ∧ oz m2 by rw [hoz]; exact ⟨⟨.inl (.inr (.inl rfl)), .inl (.inr (.inr rfl))⟩, .inr (.inl rfl), .inr (.inr rfl)⟩)
    have HA5 := Lib.hid ha5
    have HB5 := Lib.hid hh
    have HNE := Lib.hid (show ((¬ s1 = m2 ∧ ¬ m1 = m2) ∧ (¬ s2 = m1 ∧ ¬ m2 = m1)) from ⟨⟨by omega, by omega⟩, by omega, by omega⟩)
    clear hh hsz hb ha5 hlt hoz
    go_wp2_with fail
    refine (contents_any HA5.out HN.out.clean.idle).mono ?_
    rintro e w6 ⟨v1, rfl, ho1, hh6, ht6⟩
    have hb6 := HB5.out.seen hh6 ht6 (fun q hq => .inl hq) HNE.out.2
    have HA6 := Lib.hid hh6
    have HB6 := Lib.hid hb6
    have HO6 := Lib.hid (ho1.low (Nat.zero_le _))
    clear ho1 hh6 ht6 hb6
    go_wp2_with fail
    go_loopg [10, 11, 60] xs.length (fun gk u nb i' wr => ∃ (j : Nat) (D1 : Dev) (I1 : Img), j ≤ xs.length ∧ gk = xs.length - j ∧ i' = .int .i64 j ∧ nb = .int .i64 (I1.N : Int) ∧ Neat D1 I1 ∧ I1.n = n ∧ I1.N ≤ 1 + j ∧ OwnL wr 0 9 1 u ((csL I1).map fun s => [.string s]) ∧ Held w2 x s1 m1 1 0 D1 (also oz u) wr ∧ Held w2 x s2 m2 2 0 D1 (also oz u) wr)
    case atStart => exact ⟨0, E, img0 n, by omega, by omega, rfl, rfl, HN.out, rfl, Nat.le_refl _, HO6.out, HA6.out, HB6.out⟩
    case round =>
      obtain ⟨j, D1, I1, hj, hgj, rfl, rfl, hne, hin, hNb, hown, hha, hhb⟩ := hrel
      have HGJ := Lib.hid hgj
      have HNT := Lib.hid hne
      have HIN := Lib.hid hin
      have HNB := Lib.hid hNb
      have hcl : ((csL I1).map fun s => [Value.string s]).length = n := by rw [List.length_map, csL_len, hin]
      obtain ⟨B, cb, rfl, _, _, _⟩ := hown.listAt
      rw [hcl] at hown hha hhb ⊢
      have HOU := Lib.hid hown
      have HA := Lib.hid hha
      have HB := Lib.hid hhb
      clear hgj hne hin hNb hown hha hhb hcl
      by_cases hlt : j < xs.length
      · have hjj : (j : Int) < (xs.length : Int) := by omega
        have hka := (HAT.out.on HG2.out).on HA.out.live.base
        obtain ⟨b, off, rfl, hbb, c0⟩ := ws_at hka hlt
        have hfx := HFS.out _ (List.getElem_mem hlt)
        have hwo := hka.1 _ (List.getElem_mem hlt)
        have hw0 := HAT.out.1 _ (List.getElem_mem hlt)
        obtain ⟨⟨A1, c1, l1⟩, he⟩ : ∃ e, xs[j] = e := ⟨_, rfl⟩
        rw [he] at c0 hfx hwo hw0
        simp only at c0 hfx hwo hw0
        obtain ⟨q1, q2, q3, q4, q5, q6, q7⟩ := fair_next (I := I1) (by rw [HIN.out]; omega) l1
        rw [HIN.out] at q1 q2 q3 q4 q5 q6 q7
        have HFA := Lib.hid (fair_any l1 A1 c1 n 12 ⟨hn0, hn1⟩ (by omega) wr hwo.at_ (by omega) hwo.ok (fun e he => by have := hfx.1 e he; omega))
        obtain ⟨fl, hfl⟩ : ∃ fl, fairP n 12 l1 = fl := ⟨_, rfl⟩
        rw [hfl] at q1 q2 q3 q4 q5 q6 q7 HFA
        have HQ := Lib.hid (And.intro q1 (And.intro q2 (And.intro q3 (And.intro q4 (And.intro q5 q7)))))
        have HFN := Lib.hid (fair_N (I := I1) fl)
        clear hka hfx hwo hw0 he q1 q2 q3 q4 q5 q7 hfl
        go_wp2_with fail
        refine HFA.out.mono ?_
        rintro e wb ⟨vf, rfl, hof, gf⟩
        have hab := HA.out.also_new (v := vf) gf (fun q hq => hof.own_ge hq)
        have hbb2 := HB.out.also_new (v := vf) gf (fun q hq => hof.own_ge hq)
        have hob := HOU.out.grew gf
        obtain ⟨Bv, cv, rfl, _, _, _⟩ := hof.listAt
        rw [List.length_map] at hof hab hbb2 ⊢
        have HOb := Lib.hid hob
        have HFb := Lib.hid hof
        have hpar : (Int.tmod (j : Int) 2 = 0 ∨ Int.tmod (j : Int) 2 = 1) := by rw [Int.tmod_eq_emod_of_nonneg (by omega)]; omega
        obtain ⟨r, hr⟩ : ∃ r, Int.tmod (j : Int) 2 = r := ⟨_, rfl⟩
        rw [hr] at hpar
        have hrw : IntKind.i64.wrap r = r := IntWalk.i64_in _ (by omega)
        have hab0 := hab
        have hbb0 := hbb2
        clear gf hof hob hab hbb2
        obtain ⟨N1, hN1⟩ : ∃ N1, I1.N = N1 := ⟨_, rfl⟩
        obtain ⟨N2, hN2⟩ : ∃ N2, (I1.next fl).N = N2 := ⟨_, rfl⟩
        rw [hN1]
        have hNN := HFN.out
        rw [hN1, hN2] at hNN
        have HN1 := Lib.hid hN1
        have HN2 := Lib.hid hN2
        have hN1b : N1 ≤ 7 := by have := HNB.out; omega
        have HNN := Lib.hid hNN
        clear hN1 hN2 HFN hNN
        rcases hpar with hr0 | hr1
        case' inl =>
          subst hr0
          have HP := Lib.hid hab0
          have HR := Lib.hid hbb0
          have HPR := Lib.hid HNE.out.2
          have HRP := Lib.hid HNE.out.1
          have HSY := Lib.hid (show (1 : Int) ≤ 1 ∧ (1 : Int) ≤ 4 by omega)
        case' inr =>
          subst hr1
          have HP := Lib.hid hbb0
          have HR := Lib.hid hab0
          have HPR := Lib.hid HNE.out.1
          have HRP := Lib.hid HNE.out.2
          have HSY := Lib.hid (show (1 : Int) ≤ 2 ∧ (2 : Int) ≤ 4 by omega)
        all_goals
          clear hab0 hbb0
          have HCM := Lib.hid (commitC_any HP.out HSY.out HNT.out (by have := HNB.out; omega) fl (by omega) (fun e he => by have := HQ.out.2.2.2.2.2 e he; unfold okI; omega) Bv cv (own_at HFb.out) (fun _ b off e => .inr (.inr (by rw [e]; rfl))))
          rw [show checkP I1.n fl = 0 from by rw [HIN.out]; exact HQ.out.2.1, HQ.out.1] at HCM
          go_wp2_with fail
          refine HCM.out.mono ?_
          rintro e wc ⟨rfl, D2, hd, hn2, _⟩
          have HPc := Lib.hid (HP.out.done hd)
          have HRc := Lib.hid (HR.out.other hd HPR.out)
          have HOc := Lib.hid (HOb.out.done HP.out.store hd (fun q hq => .inl (.inr hq)))
          have HFc := Lib.hid (HFb.out.done HP.out.store hd (fun q hq => .inr hq))
          have HNc := Lib.hid hn2
          clear hd hn2
          by_cases hfe : fl.length = 0
          case' pos =>
            have hpos : ¬ (fl.length : Int) > 0 := by omega
            have hposd : decide ((0 : Int) < (fl.length : Int)) = false := decide_eq_false (by omega)
            have hq : N1 = N2 := by have := HNN.out; rw [if_pos hfe] at this; omega
            subst hq
          case' neg =>
            have hpos : (fl.length : Int) > 0 := by omega
            have hposd : decide ((0 : Int) < (fl.length : Int)) = true := decide_eq_true (by omega)
            have hq : IntKind.i64.wrap ((N1 : Int) + 1) = (N2 : Int) := by
              have := HNN.out
              rw [if_neg hfe] at this
              rw [← this]
              exact IntWalk.i64_in _ (by omega)
          all_goals
            clear hfe
            have HWI := Lib.hid (withL_any (csL I1) fl B Bv cb cv wc (own_at HOc.out) (own_at HFc.out) (by rw [csL_len, HIN.out]; omega) (by rw [csL_len, HIN.out]; omega) (by omega))
            rw [csL_len, HIN.out, ← HQ.out.2.2.1] at HWI
            go_wp2_with fail
            refine HWI.out.mono ?_
            rintro e wd ⟨v2, rfl, ho2, g2⟩
            have hpd := (HPc.out.re (out' := oz) (fun q hq => .inl (.inl hq)) (by first | exact HOZ.out.1.1 | exact HOZ.out.2.1) (by first | exact HOZ.out.1.2 | exact HOZ.out.2.2)).also_new (v := v2) g2 (fun q hq => ho2.own_ge hq)
            have hrd := (HRc.out.re (out' := oz) (fun q hq => .inl (.inl hq)) (by first | exact HOZ.out.2.1 | exact HOZ.out.1.1) (by first | exact HOZ.out.2.2 | exact HOZ.out.1.2)).also_new (v := v2) g2 (fun q hq => ho2.own_ge hq)
            obtain ⟨B2, c2, rfl, _, _, _⟩ := ho2.listAt
            have hl2 : ((csL (I1.next fl)).map fun s => [Value.string s]).length = n := by rw [List.length_map, csL_len, HQ.out.2.2.2.1]
            have hl3 : (csL (I1.next fl)).length = n := by rw [csL_len, HQ.out.2.2.2.1]
            rw [hl2] at ho2 hpd hrd ⊢
            have HPd := Lib.hid hpd
            have HRd := Lib.hid hrd
            have HOd := Lib.hid (ho2.low (Nat.zero_le _))
            have HLL := Lib.hid (And.intro hl2 hl3)
            clear g2 hpd hrd ho2 hl2 hl3
            go_wp2_with fail
            refine (contents_any HRd.out HNc.out.clean.idle).mono ?_
            rintro e we ⟨v3, rfl, ho3, hh, ht⟩
            have hpe := HPd.out.seen hh ht (fun q hq => .inl hq) HRP.out
            have hoe := HOd.out.stays HRd.out.store ht (fun q hq => .inr hq)
            have hnu := numberC_any hh HNc.out (by rw [HN2.out]; have := HNN.out; split at this <;> omega)
            rw [HN2.out] at hnu
            have HNU := Lib.hid hnu
            have HRe := Lib.hid hh
            have HPe := Lib.hid hpe
            have HOe := Lib.hid hoe
            have HSe := Lib.hid ho3
            clear ho3 hh ht hpe hoe hnu
            go_wp2_with fail
            refine HNU.out.mono ?_
            rintro e wf ⟨rfl, hdf⟩
            have hof := HOe.out.done HRe.out.store hdf (fun q hq => .inl (.inr hq))
            have hsf := HSe.out.done HRe.out.store hdf (fun q hq => .inr hq)
            obtain ⟨B3, c3, rfl, _, _, hb3⟩ := hsf.listAt
            rw [HLL.out.1] at hsf ⊢
            have HEQ := Lib.hid (equalL_any (csL (I1.next fl)) (csL (I1.next fl)) B3 B2 c3 c2 wf hb3 (own_at hof) (by rw [HLL.out.2]; omega) (by rw [HLL.out.2]; omega))
            rw [decide_eq_true rfl, HLL.out.2] at HEQ
            have hrf := HRe.out.done hdf
            have hpf := HPe.out.other hdf HRP.out
            have HRf := Lib.hid (hrf.re (out' := also oz (.slice B2 n c2)) (fun q hq => .inl hq) (by first | exact .inl HOZ.out.2.1 | exact .inl HOZ.out.1.1) (by first | exact .inl HOZ.out.2.2 | exact .inl HOZ.out.1.2))
            have HPf := Lib.hid (hpf.re (out' := also oz (.slice B2 n c2)) (fun q hq => .inl hq) (by first | exact .inl HOZ.out.1.1 | exact .inl HOZ.out.2.1) (by first | exact .inl HOZ.out.1.2 | exact .inl HOZ.out.2.2))
            have HOf := Lib.hid hof
            clear hdf hof hsf hb3 hrf hpf
            go_wp2_with fail
            refine HEQ.out.mono ?_
            rintro e wg ⟨rfl, gg⟩
            have HRg := Lib.hid (HRf.out.grew gg)
            have HPg := Lib.hid (HPf.out.grew gg)
            have HOg := Lib.hid (HOf.out.grew gg)
            clear gg
            go_wp2_with fail
            go_roundg (xs.length - (j + 1))
            case measure => rw [HGJ.out]; omega
            case rel => exact ⟨j + 1, D2, I1.next fl, by omega, by omega, by go_num, by rw [HN2.out], HNc.out, by rw [HQ.out.2.2.2.1], by have := HQ.out.2.2.2.2.1; have := HNB.out; omega, HOg.out, by first | exact HPg.out | exact HRg.out, by first | exact HRg.out | exact HPg.out⟩
      · obtain rfl : j = xs.length := by omega
        go_wp2_with fail
        refine (writer_any HA.out).mono ?_
        rintro e wb ⟨rfl, gb⟩
        have HBb := Lib.hid (HB.out.grew gb)
        clear gb
        go_wp2_with fail
        refine (HWT.out wb).mono ?_
        rintro e wc ⟨rfl, gc⟩
        have HBc := Lib.hid (HBb.out.grew gc)
        clear gc
        go_wp2_with fail
        refine (writer_any HBc.out).mono ?_
        rintro e wd ⟨rfl, gd⟩
        have HGd := Lib.hid (HG2.out.trans (HBc.out.live.base.trans gd))
        clear gd
        go_wp2_with fail
        refine (HWT1.out wd).mono ?_
        rintro e we ⟨rfl, ge⟩
        have HGe := Lib.hid (HGd.out.trans ge)
        clear ge
        go_wp2_with fail
        go_ret
        exact ⟨rfl, HGe.out⟩
end Go.Proofs.Ytbddelefglhaaaa
namespace Go.Proofs.Ytbddelefglhaaaa
set_option linter.unusedVariables false
set_option linter.unusedSimpArgs false
set_option linter.unusedSectionVars false
open Go.RowKit
attribute [local go_sem ↓] Go.wp_at_zero Go.wp_at_succ
theorem fail_is {D : Dev} (h : D.failed = false) (f : Nat) (sv : List Int) : failD D (f : Int) sv = { D with fuse := some (f, sv) } := by
  unfold failD
  rw [h, if_neg (by simp), show (max 0 (f : Int)).toNat = f from by omega]
theorem fuse_clean {D : Dev} {I : Img} (h : Clean D I) (fu : Option (Nat × List Int)) : Clean { D with fuse := fu } I :=
  ⟨⟨⟨h.ok.len, h.ok.pos, h.ok.lim, h.ok.st, h.ok.old, h.ok.pend, h.ok.fen⟩, h.img, h.len, h.live, h.pend, h.top, h.map, h.dat⟩, h.head⟩
theorem repair_clean {D : Dev} {I : Img} (h : Clean D I) : Clean (repairD D) I :=
  ⟨⟨⟨h.ok.len, h.ok.pos, h.ok.lim, h.ok.st, h.ok.old, h.ok.pend, h.ok.fen⟩, h.img, h.len, rfl, h.pend, h.top, h.map, h.dat⟩, h.head⟩
theorem commitS_len (l : Wl) (v : U32) : (commitS l v).length = 2 * l.length + 6 := by
  unfold commitS puts
  simp only [List.length_append, List.length_map, List.length_cons, List.length_nil, slotsW_len]
  omega
/-- What is known behind a commit during which the device may have failed. -/
structure FusedR (D3 : Dev) (I : Img) (fl : List (Int × ByteArray)) (er : Int) (J : Img) : Prop where
  two : er = 0 ∨ er = 10
  after : After (repairD D3) J
  img : J = I ∨ J = I.next fl
  did : er = 0 → J = I.next fl
  calm : ∀ sy, 1 ≤ sy ∧ sy ≤ 4 → Calm (repairD D3) sy 0
  len : D3.st.length = 131 + I.n
  pend : D3.pend.length ≤ 1000
/-- A clean device with a fuse. -/
structure Fused (D : Dev) (I : Img) (f : Nat) (sv : List Int) : Prop where
  clean : Clean D I
  fen : D.fen = fun _ => 0
  fuse : D.fuse = some (f, sv)
theorem Fused.calm {D : Dev} {I : Img} {f : Nat} {sv : List Int} (h : Fused D I f sv) {sy : Int} (hs : 1 ≤ sy ∧ sy ≤ 4) : Calm D sy 0 := ⟨h.clean.ok, h.clean.live, by unfold plainW; exact decide_eq_true ⟨hs.1, hs.2, by omega, by omega⟩, by rw [h.fen]; show ¬ (0 : Int) < 0; omega⟩
theorem calm_rep {D E : Dev} (he : E.Ok) (hf : E.fen = fun _ => 0) {sy : Int} (hs : 1 ≤ sy ∧ sy ≤ 4) : Calm (repairD E) sy 0 := ⟨repair_ok he, rfl, by unfold plainW; exact decide_eq_true ⟨hs.1, hs.2, by omega, by omega⟩, by show ¬ (0 : Int) < E.fen sy; rw [hf]; show ¬ (0 : Int) < 0; omega⟩
theorem run_pend (sy : Int) (l : Wl) (v : U32) (D D3 : Dev) (er : Int) (hl : l.length ≤ 97) (hp : D.pend = []) (hr : runS sy 0 (commitS l v) D = (D3, er)) : D3.pend.length ≤ 1000 := by
  have h := runS_pend sy 0 (commitS l v) D
  rw [commitS_len, hr, hp] at h
  simp only [List.length_nil] at h
  omega
theorem fusedR_of {D D3 : Dev} {I : Img} {fl : List (Int × ByteArray)} {sy : Int} {f : Nat} {sv : List Int} (hn : Fused D I f sv) (hs : 1 ≤ sy ∧ sy ≤ 4) (h0 : checkP I.n fl = 0) (hne : fl ≠ []) (hN : I.N + 1 < 256) {er : Int} (hr : runS sy 0 (commitS (entG D (sortW I.n fl) (nv (I.N + 1))) (nv (I.N + 1))) D = (D3, er)) : ∃ J, FusedR D3 I fl er J := by
  have hcl := hn.clean
  have ht := takes_of I fl h0 hne (by omega)
  have hnx : I.next fl = I.upd (sortW I.n fl) := if_neg hne
  have hel := entG_len D (sortW I.n fl) (nv (I.N + 1)) ht.lim
  have hp := run_pend sy _ _ D D3 er hel.2 hcl.pend hr
  rw [entG_is hcl.toHolds ht] at hr
  rcases commit_fused hcl ht hN (hn.calm hs) hn.fuse with ⟨E, r1, r2, r3, r4, r5⟩ | ⟨E, r1, r3, r4, r5, r6, r7⟩
  · rw [r1] at hr
    injection hr with e1 e2
    subst e1; subst e2
    exact ⟨I.next fl, .inl rfl, by rw [hnx]; exact r2.idle.after rfl, .inr rfl, fun _ => rfl, fun sy' hs' => calm_rep (D := D) r4 (r3.trans hn.fen) hs', r5.trans hcl.len, hp⟩
  · rw [r1] at hr
    injection hr with e1 e2
    subst e1; subst e2
    rcases r7 with r7 | r7
    · exact ⟨I, .inr rfl, r7, .inl rfl, fun h => absurd h (by decide), fun sy' hs' => calm_rep (D := D) r4 (r3.trans hn.fen) hs', r5.trans hcl.len, hp⟩
    · exact ⟨I.next fl, .inr rfl, by rw [hnx]; exact r7, .inr rfl, fun _ => rfl, fun sy' hs' => calm_rep (D := D) r4 (r3.trans hn.fen) hs', r5.trans hcl.len, hp⟩
theorem commitF_any {w0 : World} {x s m : Nat} {sy : Int} {D : Dev} {I : Img} {out : Nat → Prop} {W : World} {f : Nat} {sv : List Int} (h : Held w0 x s m sy 0 D out W) (hs : 1 ≤ sy ∧ sy ≤ 4) (hn : Fused D I f sv) (hN : I.N + 1 < 256) (fl : List (Int × ByteArray)) (hl : fl.length ≤ 1000000) (hok : ∀ e ∈ fl, okI e.1) (h0 : checkP I.n fl = 0) (A : Option Addr) (c : Nat) (hat : ListAt W W.heap.size 2 A (fl.map entC)) (hA : fl ≠ [] → AsideL w0 out A) :
    Calls Try.prog 19 #[ptrV s, .slice A fl.length c] W fun e w' => ∃ er D3 J, e = .returned (.int .i64 er) ∧ Done w0 x s m sy 0 D3 out W w' ∧ FusedR D3 I fl er J := by
  have hcl := hn.clean
  have hlen : 132 ≤ D.st.length ∧ D.st.length ≤ 1155 := by have := hcl.len; have := hcl.img.n0; have := hcl.img.n1; omega
  have hnn : D.st.length - 131 = I.n := by rw [hcl.len]; omega
  have hp : D.pend.length ≤ 800000 := by rw [hcl.pend]; simp
  have hfin := finD_clean hcl sy 0
  by_cases hne : fl = []
  · refine (commit_none h hlen hp _ false hfin fl hl hok A c hat hA (.inr hne)).mono ?_
    rintro e w' ⟨rfl, hd⟩
    have hx : I.next fl = I := if_pos hne
    exact ⟨0, D, I, by rw [hnn, h0], hd, .inl rfl, (repair_clean hcl).idle.after rfl, .inl rfl, fun _ => hx.symm, fun sy' hs' => calm_rep (D := D) hcl.ok hn.fen hs', hcl.len, by rw [hcl.pend]; simp⟩
  · obtain ⟨q1, q2, q3, q4, q5⟩ := commitP_is (sy := sy) (ep := 0) hcl fl (by omega) h0 hne
    obtain ⟨⟨D3, er⟩, hr⟩ : ∃ r, runS sy 0 (commitS (entG D (sortW I.n fl) (nv (I.N + 1))) (nv (I.N + 1))) D = r := ⟨_, rfl⟩
    obtain ⟨J, hJ⟩ := fusedR_of hn hs h0 hne hN hr
    refine (commit_any h hlen hp _ false hfin I.n hnn fl hok A c hat (hA hne) h0 hne q2 _ rfl q3 _ q4 q5).mono ?_
    rintro e w' ⟨rfl, hd⟩
    rw [hr] at hd
    exact ⟨er, D3, J, by rw [hr], hd, hJ⟩
/-- Another system opens what is left. -/
theorem FusedR.opens {D3 : Dev} {I : Img} {fl : List (Int × ByteArray)} {er : Int} {J : Img} (h : FusedR D3 I fl er J) (hn : 1 ≤ I.n ∧ I.n ≤ 1024) : ∃ F, openP (repairD D3) 2 0 = (F, 0) ∧ Idle F J := by
  obtain ⟨F, b, hf, hi, _⟩ := h.after 2 0 (h.calm 2 (by omega))
  refine ⟨F, ?_, hi⟩
  have hl := h.len
  have hfit : fitsP (repairD D3) 2 0 = true := by
    unfold fitsP
    rw [decide_eq_true (show 132 ≤ (repairD D3).st.length ∧ (repairD D3).st.length ≤ 1155 from by show 132 ≤ D3.st.length ∧ D3.st.length ≤ 1155; omega)]
    rfl
  unfold openP
  rw [hf, if_neg (by rw [hfit]; simp), if_neg (by simp), if_neg (by rw [hi.toHolds.topI]; simp)]
end Go.Proofs.Ytbddelefglhaaaa
namespace Go.Proofs.Ytbddelefglhaaaa
set_option linter.unusedVariables false
set_option linter.unusedSimpArgs false
set_option linter.unusedSectionVars false
open Go.RowKit
attribute [local go_sem ↓] Go.wp_at_zero Go.wp_at_succ
set_option maxRecDepth 100000 in
set_option maxHeartbeats 4000000 in
theorem pagesAtomic_no (bad : Nat) (k : Nat) (A0 : Option Addr) (c0 : Nat) (bf : List (Int × ByteArray)) (A : Option Addr) (c : Nat) (ws : List (Int × ByteArray)) (f : Nat) (S : Option Addr) (cs : Nat) (sl : Nat) (w : World) (h0 : WsOk w w.heap.size A0 bf) (h1 : WsOk w w.heap.size A ws)
    (hb : shortP bf 12 = false ∨ shortP ws 12 = false ∨ 100 < sl) :
    Calls Try.prog 6 #[.int .u8 (k : Int), .slice A0 bf.length c0, .slice A ws.length c, .int .u8 (f : Int), .slice S sl cs] w fun e w' => e = .returned (.bool true) ∧ Grew w w' := by
  have HS0 := Lib.hid (fun (w1 : World) (g : Grew w w1) => short_any bf A0 c0 12 (by omega) w1 (h0.on g).at_ h0.len)
  have HS1 := Lib.hid (fun (w1 : World) (g : Grew w w1) => short_any ws A c 12 (by omega) w1 (h1.on g).at_ h1.len)
  clear h0 h1
  cases hs0 : shortP bf 12 with
  | false =>
    rw [hs0] at HS0
    clear hs0 hb
    go_enter Try.func6, Try.ntmps6
    go_wp2_with fail
    refine (awake4_any w).mono ?_
    rintro e w1 ⟨rfl, g1⟩
    have HG1 := Lib.hid g1
    clear g1
    go_wp2_with fail
    refine (HS0.out w1 HG1.out).mono ?_
    rintro e w2 ⟨rfl, g2⟩
    have HG2 := Lib.hid (HG1.out.trans g2)
    clear g2
    go_wp2_with fail
    refine (awake4_any w2).mono ?_
    rintro e w3 ⟨rfl, g3⟩
    go_wp2_with fail
    go_ret
    exact ⟨rfl, HG2.out.trans g3⟩
  | true =>
    cases hs1 : shortP ws 12 with
    | false =>
      rw [hs0] at HS0
      rw [hs1] at HS1
      clear hs0 hs1 hb
      go_enter Try.func6, Try.ntmps6
      go_wp2_with fail
      refine (awake4_any w).mono ?_
      rintro e w1 ⟨rfl, g1⟩
      have HG1 := Lib.hid g1
      clear g1
      go_wp2_with fail
      refine (HS0.out w1 HG1.out).mono ?_
      rintro e w2 ⟨rfl, g2⟩
      have HG2 := Lib.hid (HG1.out.trans g2)
      clear g2
      go_wp2_with fail
      refine (HS1.out w2 HG2.out).mono ?_
      rintro e w3 ⟨rfl, g3⟩
      have HG3 := Lib.hid (HG2.out.trans g3)
      clear g3
      go_wp2_with fail
      refine (awake4_any w3).mono ?_
      rintro e w4 ⟨rfl, g4⟩
      go_wp2_with fail
      go_ret
      exact ⟨rfl, HG3.out.trans g4⟩
    | true =>
      rw [hs0] at HS0
      rw [hs1] at HS1
      have hsl : (sl : Int) > 100 := by rcases hb with h9 | h9 | h9 <;> first | (rw [hs0] at h9; cases h9) | (rw [hs1] at h9; cases h9) | omega
      clear hs0 hs1 hb
      go_enter Try.func6, Try.ntmps6
      go_wp2_with fail
      refine (awake4_any w).mono ?_
      rintro e w1 ⟨rfl, g1⟩
      have HG1 := Lib.hid g1
      clear g1
      go_wp2_with fail
      refine (HS0.out w1 HG1.out).mono ?_
      rintro e w2 ⟨rfl, g2⟩
      have HG2 := Lib.hid (HG1.out.trans g2)
      clear g2
      go_wp2_with fail
      refine (HS1.out w2 HG2.out).mono ?_
      rintro e w3 ⟨rfl, g3⟩
      have HG3 := Lib.hid (HG2.out.trans g3)
      clear g3
      go_wp2_with fail
      refine (awake4_any w3).mono ?_
      rintro e w4 ⟨rfl, g4⟩
      go_wp2_with fail
      go_ret
      exact ⟨rfl, HG3.out.trans g4⟩
set_option maxRecDepth 100000 in
set_option maxHeartbeats 8000000 in
theorem pagesAtomic_any (k : Nat) (hk : k < 256) (A0 : Option Addr) (c0 : Nat) (bf : List (Int × ByteArray)) (A : Option Addr) (c : Nat) (ws : List (Int × ByteArray)) (f : Nat) (hf : f < 256) (S : Option Addr) (cs : Nat) (sv : List Int) (w : World) (h0 : WsOk w w.heap.size A0 bf) (h1 : WsOk w w.heap.size A ws) (h2 : ListAt w w.heap.size 1 S (sv.map intC)) (h3 : ∀ n ∈ sv, okI n) :
    Calls Try.prog 6 #[.int .u8 (k : Int), .slice A0 bf.length c0, .slice A ws.length c, .int .u8 (f : Int), .slice S sv.length cs] w fun e w' => e = .returned (.bool true) ∧ Grew w w' := by
  cases hs0 : shortP bf 12 with
  | false => exact pagesAtomic_no 0 k A0 c0 bf A c ws f S cs sv.length w h0 h1 (.inl hs0)
  | true =>
  cases hs1 : shortP ws 12 with
  | false => exact pagesAtomic_no 0 k A0 c0 bf A c ws f S cs sv.length w h0 h1 (.inr (.inl hs1))
  | true =>
  by_cases hsl : 100 < sv.length
  · exact pagesAtomic_no 0 k A0 c0 bf A c ws f S cs sv.length w h0 h1 (.inr (.inr hsl))
  have HS0 := Lib.hid (fun (w1 : World) (g : Grew w w1) => short_any bf A0 c0 12 (by omega) w1 (h0.on g).at_ h0.len)
  have HS1 := Lib.hid (fun (w1 : World) (g : Grew w w1) => short_any ws A c 12 (by omega) w1 (h1.on g).at_ h1.len)
  rw [hs0] at HS0
  rw [hs1] at HS1
  obtain ⟨hz0, hl0⟩ := short_facts hs0
  obtain ⟨hz1, hl1⟩ := short_facts hs1
  have hsl2 : ¬ (sv.length : Int) > 100 := by omega
  have hslb : sv.length ≤ 100 := by omega
  have hn1 : 1 + k % 40 ≤ 1024 := by omega
  have HBG := Lib.hid (fun (w2 : World) => beginL_any k hk w2)
  obtain ⟨n, hn⟩ : ∃ n, 1 + k % 40 = n := ⟨_, rfl⟩
  rw [hn] at HBG hn1
  have hn0 : 1 ≤ n := by omega
  obtain ⟨p1, p2, p3, p4, p5, p6, p7⟩ := fair_next (I := img0 n) hn0 bf
  rw [show (img0 n).n = n from rfl] at p1 p2 p3 p4 p5 p6 p7
  obtain ⟨bl, hbl⟩ : ∃ bl, fairP n 12 bf = bl := ⟨_, rfl⟩
  rw [hbl] at p1 p2 p3 p4 p5 p6 p7
  obtain ⟨I1, hI1⟩ : ∃ I1, (img0 n).next bl = I1 := ⟨_, rfl⟩
  rw [hI1] at p1 p3 p4 p5
  obtain ⟨q1, q2, q3, q4, q5, q6, q7⟩ := fair_next (I := I1) (by rw [p4]; omega) ws
  rw [p4] at q1 q2 q3 q4 q5 q6 q7
  obtain ⟨fl, hfl⟩ : ∃ fl, fairP n 12 ws = fl := ⟨_, rfl⟩
  rw [hfl] at q1 q2 q3 q4 q5 q6 q7
  obtain ⟨r, hr⟩ : ∃ r : Nat, f % 40 = r := ⟨_, rfl⟩
  have hr40 : r < 40 := by omega
  have hr2 : Int.tmod (f : Int) 40 = (r : Int) := by rw [Int.tmod_eq_emod_of_nonneg (by omega)]; omega
  have hw1 : IntKind.u8.wrap (r : Int) = (r : Int) := IntWalk.u8_in _ (by omega)
  have hw2 : IntKind.i64.wrap (r : Int) = (r : Int) := IntWalk.i64_in _ (by omega)
  have HAB := Lib.hid h0
  have HAW := Lib.hid h1
  have HSV := Lib.hid h2
  have HSK := Lib.hid h3
  have HZ0 := Lib.hid hz0
  have HZ1 := Lib.hid hz1
  have HBL := Lib.hid hbl
  have HFL := Lib.hid hfl
  have HP := Lib.hid (And.intro p1 (And.intro p2 (And.intro p4 (And.intro p5 p7))))
  have HQ := Lib.hid (And.intro q2 (And.intro q3 (And.intro q4 q7)))
  clear hs0 hs1 hsl h0 h1 h2 h3 hz0 hz1 hk hn hbl hfl p1 p2 p3 p4 p5 p7 q1 q2 q3 q4 q5 q7 hr hf hI1
  go_enter Try.func6, Try.ntmps6
  go_wp2_with fail
  refine (awake4_any w).mono ?_
  rintro e w1 ⟨rfl, g1⟩
  have HG1 := Lib.hid g1
  clear g1
  go_wp2_with fail
  refine (HS0.out w1 HG1.out).mono ?_
  rintro e w2 ⟨rfl, g2⟩
  have HG2 := Lib.hid (HG1.out.trans g2)
  clear g2
  go_wp2_with fail
  refine (HS1.out w2 HG2.out).mono ?_
  rintro e w3 ⟨rfl, g3⟩
  have HG3 := Lib.hid (HG2.out.trans g3)
  clear g3
  go_wp2_with fail
  refine (HBG.out w3).mono ?_
  rintro e w4 ⟨x, E, rfl, hbg⟩
  have HN := Lib.hid hbg.neat
  have HL := Lib.hid hbg.live
  clear hbg
  go_wp2_with fail
  refine (openC_any HL.out HN.out 0 (by omega)).mono ?_
  rintro e w5 ⟨s, m, rfl, hh, _, _⟩
  rw [show sysL 0 = 1 from rfl] at hh
  have HSE := Lib.hid (sectors_any' hh)
  rw [show (E.st.length : Int) - 131 = (n : Int) from by have := HN.out.clean.len; have : (img0 n).n = n := rfl; omega] at HSE
  have HH5 := Lib.hid hh
  clear hh
  go_wp2_with fail
  refine HSE.out.mono ?_
  rintro e w6 ⟨rfl, g6⟩
  have hh6 := HH5.out.grew g6
  have hw6 := (HAB.out.on HG3.out).on hh6.live.base
  have HFA := Lib.hid (fair_any bf A0 c0 n 12 ⟨hn0, hn1⟩ (by omega) w6 hw6.at_ (by omega) hw6.ok (fun e he => by have := HZ0.out e he; omega))
  rw [HBL.out] at HFA
  have HH6 := Lib.hid hh6
  clear g6 hh6 hw6
  go_wp2_with fail
  refine HFA.out.mono ?_
  rintro e w7 ⟨vb, rfl, hob, g7⟩
  have hh7 := HH6.out.also_new (v := vb) g7 (fun q hq => hob.own_ge hq)
  obtain ⟨Bb, cb, rfl, _, _, _⟩ := hob.listAt
  rw [List.length_map] at hob hh7 ⊢
  have HCM := Lib.hid (commitC_any hh7 (by omega) HN.out (by show 1 < 1000; omega) bl (by omega) (fun e he => by have := HP.out.2.2.2.2 e he; unfold okI; omega) Bb cb (own_at hob) (fun _ b off e => .inr (.inr (by rw [e]; rfl))))
  rw [show checkP (img0 n).n bl = 0 from HP.out.2.1, HP.out.1] at HCM
  have HH7 := Lib.hid hh7
  clear hh7 hob g7
  go_wp2_with fail
  refine HCM.out.mono ?_
  rintro e w8 ⟨rfl, D1, hd, hn1', _⟩
  have HH8 := Lib.hid ((HH7.out.done hd).re (out' := fun q => False ∨ q = s ∨ q = m) (fun q hq => .inl hq) (.inr (.inl rfl)) (.inr (.inr rfl)))
  have HN1 := Lib.hid hn1'
  clear hd hn1'
  go_wp2_with fail
  refine (contents_any HH8.out HN1.out.clean.idle).mono ?_
  rintro e w9 ⟨v1, rfl, ho1, hh9, _⟩
  have hIl : (csL I1).length = n := by rw [csL_len, HP.out.2.2.1]
  obtain ⟨B1, c1, rfl, _, _, _⟩ := ho1.listAt
  rw [List.length_map, hIl] at ho1 hh9 ⊢
  have hw9 := (HAW.out.on HG3.out).on hh9.live.base
  have HFB := Lib.hid (fair_any ws A c n 12 ⟨hn0, hn1⟩ (by omega) w9 hw9.at_ (by omega) hw9.ok (fun e he => by have := HZ1.out e he; omega))
  rw [HFL.out] at HFB
  have HH9 := Lib.hid hh9
  have HO9 := Lib.hid ho1
  have HIL := Lib.hid hIl
  clear hh9 ho1 hw9 hIl
  go_wp2_with fail
  refine HFB.out.mono ?_
  rintro e wa ⟨vf, rfl, hof, ga⟩
  have hha := HH9.out.also_new (v := vf) ga (fun q hq => hof.own_ge hq)
  have hoa := HO9.out.grew ga
  obtain ⟨Bv, cv, rfl, _, _, _⟩ := hof.listAt
  rw [List.length_map] at hof hha ⊢
  have HFI := Lib.hid (fail_live hha.live (r : Int) (by unfold okI; omega) S cs sv (((HSV.out.keep (Nat.le_refl _) (HG3.out.trans hha.live.base)).mono (HG3.out.trans hha.live.base).size)) (by omega) HSK.out)
  rw [fail_is HN1.out.clean.live] at HFI
  have HHa := Lib.hid hha
  have HOa := Lib.hid hoa
  have HFa := Lib.hid hof
  clear hha hoa hof ga
  go_wp2_with fail
  refine HFI.out.mono ?_
  rintro e wb ⟨rfl, hlb, hbs⟩
  have hfu : Fused { D1 with fuse := some (r, sv) } I1 r sv := ⟨fuse_clean HN1.out.clean _, HN1.out.fen, rfl⟩
  obtain ⟨DF, hDF⟩ : ∃ DF : Dev, { D1 with fuse := some (r, sv) } = DF := ⟨_, rfl⟩
  rw [hDF] at hlb hfu
  have hhb := HHa.out.kept hlb hbs (fun q hq => hq)
  have hob := HOa.out.beside hbs (fun q hq => .inl (.inr hq))
  have hfb := HFa.out.beside hbs (fun q hq => .inr hq)
  have HCF := Lib.hid (commitF_any hhb (by omega) hfu (by have := HP.out.2.2.2.1; have : (img0 n).N = 1 := rfl; omega) fl (by omega) (fun e he => by have := HQ.out.2.2.2 e he; unfold okI; omega) (by rw [HP.out.2.2.1]; exact HQ.out.1) Bv cv (own_at hfb) (fun _ b off e => .inr (.inr (by rw [e]; rfl))))
  have HHb := Lib.hid hhb
  have HOb := Lib.hid hob
  have HFb := Lib.hid hfb
  clear hlb hbs hfu hDF hhb hob hfb
  go_wp2_with fail
  refine HCF.out.mono ?_
  rintro e wc ⟨er, D3, J, rfl, hd, hfr⟩
  have HHc := Lib.hid (HHb.out.done hd)
  have HOc := Lib.hid (HOb.out.done HHb.out.store hd (fun q hq => .inl (.inr hq)))
  have HFc := Lib.hid (HFb.out.done HHb.out.store hd (fun q hq => .inr hq))
  have HFR := Lib.hid hfr
  clear hd hfr
  go_wp2_with fail
  refine (repair_live HHc.out.live).mono ?_
  rintro e wd ⟨rfl, hld, hbs⟩
  have hod := HOc.out.beside hbs (fun q hq => .inl (.inr hq))
  have hfd := HFc.out.beside hbs (fun q hq => .inr hq)
  obtain ⟨F, hop, hid⟩ := HFR.out.opens (by rw [HP.out.2.2.1]; omega)
  have HOP := Lib.hid (openL_any hld (by have := HFR.out.len; rw [HP.out.2.2.1] at this; show 132 ≤ D3.st.length ∧ D3.st.length ≤ 1155; omega) (by have := HFR.out.pend; show D3.pend.length ≤ _; omega) 1 (by omega) F hop)
  have HID := Lib.hid hid
  have HOd := Lib.hid hod
  have HFd := Lib.hid hfd
  have HW0 := Lib.hid hld.base.size
  clear hld hbs hod hfd hop hid
  go_wp2_with fail
  refine HOP.out.mono ?_
  rintro e we ⟨s2, m2, rfl, hle, hst, hsz, hbs⟩
  have hhe : Held w3 x s2 m2 (sysL 1) 0 F _ we := ⟨hle, hst, .inr (.inl rfl), .inr (.inr rfl), Nat.le_trans HW0.out hsz.2⟩
  have hoe := HOd.out.beside hbs (fun q hq => .inl (.inr hq))
  have hfe := HFd.out.beside hbs (fun q hq => .inr hq)
  have HHe := Lib.hid hhe
  have HOe := Lib.hid hoe
  have HFe := Lib.hid hfe
  clear hle hst hsz hbs hhe hoe hfe
  rcases HFR.out.two with her | her
  · subst her
    have hJ := HFR.out.did rfl
    subst hJ
    go_wp2_with fail
    refine (contents_any HHe.out HID.out).mono ?_
    rintro e wf ⟨v3, rfl, ho3, hh, ht⟩
    have hof := HOe.out.stays HHe.out.store ht (fun q hq => .inl (.inl (.inr hq)))
    have hff := HFe.out.stays HHe.out.store ht (fun q hq => .inl (.inr hq))
    have hl3 : (csL (I1.next fl)).length = n := by rw [csL_len, HQ.out.2.2.1]
    obtain ⟨B3, c3, rfl, _, _, hb3⟩ := ho3.listAt
    rw [List.length_map, hl3]
    have HWI := Lib.hid (withL_any (csL I1) fl B1 Bv c1 cv wf (own_at hof) (own_at hff) (by rw [HIL.out]; omega) (by rw [HIL.out]; omega) (by omega))
    rw [HIL.out, ← HQ.out.2.1] at HWI
    have HL3 := Lib.hid hl3
    have HB3 := Lib.hid hb3
    have HGf := Lib.hid (HG3.out.trans hh.live.base)
    clear ho3 hh ht hof hff hl3 hb3
    go_wp2_with fail
    refine HWI.out.mono ?_
    rintro e wg ⟨v4, rfl, ho4, g4⟩
    obtain ⟨B4, c4, rfl, _, _, hb4⟩ := ho4.listAt
    rw [List.length_map, HL3.out]
    have HEQ2 := Lib.hid (equalL_any (csL (I1.next fl)) (csL (I1.next fl)) B3 B4 c3 c4 wg (listAt_on HB3.out g4) hb4 (by rw [HL3.out]; omega) (by rw [HL3.out]; omega))
    rw [decide_eq_true rfl, HL3.out] at HEQ2
    have HGg := Lib.hid (HGf.out.trans g4)
    clear ho4 g4 hb4
    go_wp2_with fail
    refine HEQ2.out.mono ?_
    rintro e wh ⟨rfl, gh⟩
    have HGh := Lib.hid (HGg.out.trans gh)
    clear gh
    go_wp2_with fail
    go_ret
    exact ⟨rfl, HGh.out⟩
  · subst her
    go_wp2_with fail
    refine (contents_any HHe.out HID.out).mono ?_
    rintro e wf ⟨v3, rfl, ho3, hh, ht⟩
    have hof := HOe.out.stays HHe.out.store ht (fun q hq => .inl (.inl (.inr hq)))
    have hff := HFe.out.stays HHe.out.store ht (fun q hq => .inl (.inr hq))
    have hJn : J.n = n := by
      rcases HFR.out.img with h9 | h9
      · rw [h9]; exact HP.out.2.2.1
      · rw [h9]; exact HQ.out.2.2.1
    have hl3 : (csL (I1.next fl)).length = n := by rw [csL_len, HQ.out.2.2.1]
    have hlJ : (csL J).length = n := by rw [csL_len, hJn]
    obtain ⟨B3, c3, rfl, _, _, hb3⟩ := ho3.listAt
    rw [List.length_map, hlJ]
    have HWI := Lib.hid (withL_any (csL I1) fl B1 Bv c1 cv wf (own_at hof) (own_at hff) (by rw [HIL.out]; omega) (by rw [HIL.out]; omega) (by omega))
    rw [HIL.out, ← HQ.out.2.1] at HWI
    have HL3 := Lib.hid hl3
    have HLJ := Lib.hid hlJ
    have HB3 := Lib.hid hb3
    have HOf := Lib.hid hof
    have HGf := Lib.hid (HG3.out.trans hh.live.base)
    obtain ⟨bq, hbq⟩ : ∃ bq, decide (csL J = csL (I1.next fl)) = bq := ⟨_, rfl⟩
    have HBQ : Hid (bq = false → csL J = csL I1) := Lib.hid (fun h9 => by
      rcases HFR.out.img with h8 | h8
      · rw [h8]
      · rw [h8, decide_eq_true rfl] at hbq
        rw [h9] at hbq
        cases hbq)
    have HBE := Lib.hid hbq
    clear ho3 hh ht hof hff hl3 hb3 hJn hlJ hbq
    go_wp2_with fail
    refine HWI.out.mono ?_
    rintro e wg ⟨v4, rfl, ho4, g4⟩
    obtain ⟨B4, c4, rfl, _, _, hb4⟩ := ho4.listAt
    rw [List.length_map, HL3.out]
    have HEQ2 := Lib.hid (equalL_any (csL J) (csL (I1.next fl)) B3 B4 c3 c4 wg (listAt_on HB3.out g4) hb4 (by rw [HLJ.out]; omega) (by rw [HL3.out]; omega))
    rw [HBE.out, HL3.out, HLJ.out] at HEQ2
    have HGg := Lib.hid (HGf.out.trans g4)
    have HOg := Lib.hid (HOf.out.grew g4)
    have HBg := Lib.hid (listAt_on HB3.out g4)
    clear ho4 g4 hb4
    cases bq with
    | true =>
      go_wp2_with fail
      refine HEQ2.out.mono ?_
      rintro e wh ⟨rfl, gh⟩
      have HGh := Lib.hid (HGg.out.trans gh)
      clear gh
      go_wp2_with fail
      go_ret
      exact ⟨rfl, HGh.out⟩
    | false =>
      have HJI := Lib.hid (HBQ.out rfl)
      go_wp2_with fail
      refine HEQ2.out.mono ?_
      rintro e wh ⟨rfl, gh⟩
      have HGh := Lib.hid (HGg.out.trans gh)
      have HEQ3 := Lib.hid (equalL_any (csL J) (csL I1) B3 B1 c3 c1 wh (listAt_on HBg.out gh) (listAt_on (own_at HOg.out) gh) (by rw [HLJ.out]; omega) (by rw [HIL.out]; omega))
      rw [decide_eq_true HJI.out, HLJ.out, HIL.out] at HEQ3
      clear gh
      go_wp2_with fail
      refine HEQ3.out.mono ?_
      rintro e wi ⟨rfl, gi⟩
      have HGi := Lib.hid (HGh.out.trans gi)
      clear gi
      go_wp2_with fail
      go_ret
      exact ⟨rfl, HGi.out⟩
end Go.Proofs.Ytbddelefglhaaaa
