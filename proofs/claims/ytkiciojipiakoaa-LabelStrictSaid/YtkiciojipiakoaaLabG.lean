/- Chapter 7: the reference's Valid, where the first test is passed. -/
import Derived.Test.YtkiciojipiakoaaLabF
import Derived.IntWalk
namespace Go.Proofs.Ytkiciojipiakoaa
set_option linter.unusedVariables false
set_option linter.unusedSimpArgs false
set_option linter.unusedSectionVars false
open Go.RowKit
attribute [local go_sem ↓] Go.wp_at_zero Go.wp_at_succ
section
variable (A : Option Addr) (c : Nat) (l : Lab) (t : Int) (w : World)
set_option maxRecDepth 100000 in
set_option maxHeartbeats 4000000 in
/-- What stands behind the first test. -/
theorem rvalid_yes (ho : okT t = true) (a1 : 1 ≤ l.id) (a2 : l.id ≤ 1099511627776) (a3 : 0 ≤ l.unit) (a4 : l.unit ≤ 1099511627776) (a5 : l.name.size ≤ 31) (a6 : l.note.size ≤ 400) (a7 : 1 ≤ l.ext.length) (a8 : l.ext.length ≤ 16) (h : LabAt w A c l) (hs : l.ext.length ≤ 100000) (t0 : -9223372036854775808 ≤ t) (t1 : t ≤ 9223372036854775807) :
    Calls Try.prog 13 #[.agg #[.int .i64 l.id, .int .i64 l.unit, .string l.name, .string l.note, .slice A l.ext.length c], .int .i64 t] w fun e w' => e = .returned (.bool (validL l t)) ∧ Grew w w' := by
  have HL := Lib.hid h
  have HB0 := Lib.hid (Blk.new w 24 #[.int .i64 l.id, .int .i64 l.unit, .string l.name, .string l.note, .slice A l.ext.length c] rfl)
  have HG0 := Lib.hid ((Grew.refl w).alloc (.cells #[.int .i64 l.id, .int .i64 l.unit, .string l.name, .string l.note, .slice A l.ext.length c] 24))
  have hi0 := h.id0
  have hi1 := h.id1
  have hu0 := h.unit0
  have hu1 := h.unit1
  have hns := h.name
  have hts := h.note
  have HF0 := Lib.hid (fun (hx : okT t = false) => valid_false l t 0 hx)
  have HF1 := Lib.hid (fun (hx : ¬ (1 ≤ l.id ∧ l.id ≤ 1099511627776 ∧ 0 ≤ l.unit ∧ l.unit ≤ 1099511627776)) => valid_false l t 1 (by show idB l = false; unfold idB; exact decide_eq_false hx))
  have HF2 := Lib.hid (fun (hx : ¬ (l.name.size ≤ 31 ∧ l.note.size ≤ 400)) => valid_false l t 2 (by show txB l = false; unfold txB; exact decide_eq_false hx))
  have HF3 := Lib.hid (fun (hx : ¬ (1 ≤ l.ext.length ∧ l.ext.length ≤ 16)) => valid_false l t 3 (by show cnB l = false; unfold cnB; exact decide_eq_false hx))
  have HNR := Lib.hid (valid_norok l t)
  have HJN := Lib.hid (valid_jn l t)
  have HT1 := Lib.hid (fun (hx : 1 ≤ l.id ∧ l.id ≤ 1099511627776 ∧ 0 ≤ l.unit ∧ l.unit ≤ 1099511627776) => show idB l = true from by unfold idB; exact decide_eq_true hx)
  have HT2 := Lib.hid (fun (hx : l.name.size ≤ 31 ∧ l.note.size ≤ 400) => show txB l = true from by unfold txB; exact decide_eq_true hx)
  have HT3 := Lib.hid (fun (hx : 1 ≤ l.ext.length ∧ l.ext.length ≤ 16) => show cnB l = true from by unfold cnB; exact decide_eq_true hx)
  have HVJ := Lib.hid (show jnB l = (decide (l.ext = ints (joinS l.ext)) && decide (seqS l.ext).Nodup) from by
    unfold jnB; congr 1; simp only [eq_comm])
  clear h
  have HO := Lib.hid ho
  obtain ⟨ht4, ht8⟩ := okT_true ho
  clear ho
  have a5i : (l.name.size : Int) ≤ 31 := by omega
  have a6i : (l.note.size : Int) ≤ 400 := by omega
  have a7i : 1 ≤ (l.ext.length : Int) := by omega
  have a8i : (l.ext.length : Int) ≤ 16 := by omega
  have HI1 := Lib.hid (HT1.out ⟨a1, a2, a3, a4⟩)
  have HI2 := Lib.hid (HT2.out ⟨a5, a6⟩)
  have HI3 := Lib.hid (HT3.out ⟨a7, a8⟩)
  go_enter Try.func13, Try.ntmps13
  go_wp2_with fail
  refine (rvalid_any _ _).mono ?_
  rintro e w1 ⟨rfl, rfl⟩
  rw [HO.out]
  obtain ⟨tt, htt⟩ : ∃ tt, ttS t = tt := ⟨_, rfl⟩
  have htb := ttS_bd t
  rw [htt] at htb
  obtain ⟨htb0, htb1⟩ := htb
  have HTT := Lib.hid htt
  have HTC := Lib.hid (fun w => (rtable_any t w))
  clear htt
  go_wp2_with fail
  go_loopg [5] l.ext.length (fun gk i wr => ∃ k : Nat, k ≤ l.ext.length ∧ gk = l.ext.length - k ∧ i = .int .i64 k ∧ (∀ j (hj : j < l.ext.length), j < k → rokR t l.ext[j]) ∧ Grew (w.alloc (.cells #[.int .i64 l.id, .int .i64 l.unit, .string l.name, .string l.note, .slice A l.ext.length c] 24)) wr)
  case atStart => exact ⟨0, by omega, by omega, rfl, fun j hj h => by omega, Grew.refl _⟩
  case round =>
    obtain ⟨k, hk, hgk, rfl, hall, hg⟩ := hrel
    have HGK := Lib.hid hgk
    have HA := Lib.hid hall
    have HG := Lib.hid hg
    have hbx := HB0.out.grew hg
    have x4 := hbx.cell 4
    have hbl := hbx.lt
    have HR := Lib.hid (HL.out.hold (HG0.out.trans hg))
    have HBX := Lib.hid hbx
    clear hgk hall hbx
    by_cases hlt : k < l.ext.length
    · obtain ⟨b, off, f, n, rfl, hb, hv, hok, c0, c1⟩ := HR.out.runs.at_ hlt
      obtain ⟨k0, k1, k2, k3⟩ := hok
      simp only at k0 k1 k2 k3
      have HBAD := Lib.hid (show ¬ rokR t (f, n) → validL l t = false from fun h => HNR.out (f, n) (by rw [← hv]; exact List.getElem_mem hlt) h)
      have HOKN := Lib.hid (show rokR t (f, n) → ∀ j (hj : j < l.ext.length), j < k + 1 → rokR t l.ext[j] from fun h j hj hjk => by
        by_cases hjk' : j = k
        · subst hjk'; rw [hv]; exact h
        · exact HA.out j hj (by omega))
      have HRD := Lib.hid (show rokR t (f, n) ↔ (tt ≤ f ∧ f < t ∧ 1 ≤ n ∧ n ≤ t - f) from by unfold rokR; rw [HTT.out])
      clear hv hg
      by_cases r1 : tt ≤ f
      rotate_left
      · have dr1 : decide (f < tt) = true := decide_eq_true (by omega)
        have HE := Lib.hid (HBAD.out (fun h => by have := HRD.out.1 h; omega))
        go_wp2_with fail
        go_quiet ((go_at_call 20; exact Calls.quiet_of_same ((HTC.out _).mono (fun _ _ h => ⟨by rw [HTT.out] at h; exact h.1, h.2.symm⟩))))
        go_wp2_with fail
        go_ret
        exact ⟨ret_bool (by rw [HE.out]), ((HG0.out.trans HG.out).alloc _).drewN _⟩
      have dr1 : decide (f < tt) = false := decide_eq_false (by omega)
      by_cases r2 : f < t
      rotate_left
      · have dr2 : decide (t ≤ f) = true := decide_eq_true (by omega)
        have HE := Lib.hid (HBAD.out (fun h => by have := HRD.out.1 h; omega))
        go_wp2_with fail
        go_quiet ((go_at_call 20; exact Calls.quiet_of_same ((HTC.out _).mono (fun _ _ h => ⟨by rw [HTT.out] at h; exact h.1, h.2.symm⟩))))
        go_wp2_with fail
        go_ret
        exact ⟨ret_bool (by rw [HE.out]), ((HG0.out.trans HG.out).alloc _).drewN _⟩
      have dr2 : decide (t ≤ f) = false := decide_eq_false (by omega)
      have hsub : IntKind.i64.wrap (t - f) = t - f := IntWalk.i64_in _ (by omega)
      by_cases r3 : 1 ≤ n
      rotate_left
      · have dr3 : decide (n < 1) = true := decide_eq_true (by omega)
        have HE := Lib.hid (HBAD.out (fun h => by have := HRD.out.1 h; omega))
        go_wp2_with fail
        go_quiet ((go_at_call 20; exact Calls.quiet_of_same ((HTC.out _).mono (fun _ _ h => ⟨by rw [HTT.out] at h; exact h.1, h.2.symm⟩))))
        go_wp2_with fail
        go_ret
        exact ⟨ret_bool (by rw [HE.out]), ((HG0.out.trans HG.out).alloc _).drewN _⟩
      have dr3 : decide (n < 1) = false := decide_eq_false (by omega)
      by_cases r4 : n ≤ t - f
      rotate_left
      · have dr4 : decide (t - f < n) = true := decide_eq_true (by omega)
        have HE := Lib.hid (HBAD.out (fun h => by have := HRD.out.1 h; omega))
        go_wp2_with fail
        go_quiet ((go_at_call 20; exact Calls.quiet_of_same ((HTC.out _).mono (fun _ _ h => ⟨by rw [HTT.out] at h; exact h.1, h.2.symm⟩))))
        go_wp2_with fail
        go_ret
        exact ⟨ret_bool (by rw [HE.out]), ((HG0.out.trans HG.out).alloc _).drewN _⟩
      have dr4 : decide (t - f < n) = false := decide_eq_false (by omega)
      have HN := Lib.hid (HOKN.out (HRD.out.2 ⟨r1, r2, r3, r4⟩))
      go_wp2_with fail
      go_quiet ((go_at_call 20; exact Calls.quiet_of_same ((HTC.out _).mono (fun _ _ h => ⟨by rw [HTT.out] at h; exact h.1, h.2.symm⟩))))
      go_wp2_with fail
      go_roundg (l.ext.length - (k + 1))
      case measure => rw [HGK.out]; omega
      case rel => exact ⟨k + 1, by omega, by omega, by go_num, HN.out, (HG.out.alloc _).drewN _⟩
    · have HALL := Lib.hid (show validL l t = jnB l from HJN.out HO.out HI1.out HI2.out HI3.out (fun r hr => by
        obtain ⟨j, hj, rfl⟩ := List.getElem_of_mem hr
        exact HA.out j hj (by omega)))
      obtain ⟨kj, hkj⟩ : ∃ kj, ints (joinS l.ext) = kj := ⟨_, rfl⟩
      have hkl : kj.length ≤ l.ext.length := by rw [← hkj, ints_len]; exact joinS_len _
      have HKJ := Lib.hid hkj
      have HVV := Lib.hid (show validL l t = (decide (l.ext = kj) && decide (seqS l.ext).Nodup) from by rw [HALL.out, HVJ.out, hkj])
      obtain ⟨wm, hwm⟩ : ∃ wm, wm = wr := ⟨_, rfl⟩
      subst hwm
      have hgm := HG0.out.trans hg
      clear hkj hg
      cases hj : decide (l.ext = kj) with
      | false =>
        have HJ := Lib.hid hj
        clear hj
        go_wp2_with fail
        refine wp_region_R [] (fun w' : World => w'.cell? ⟨w.heap.size, 4, none⟩ = some (.slice A l.ext.length c)) (by kernel_rfl) ?_
        have hS := HBX.out.drew.cell 4
        refine wpAnyR_takeQ (i := 0) (v := ?_) (some 91) rfl rfl (by kernel_rfl) (by kernel_rfl) (by kernel_rfl) (by kernel_rfl) (fun _ _ _ h => h) (Or.inl ⟨by rfl, ?_⟩) ?_
        rotate_left
        focus (intro wS hSw; (try dsimp only at hSw); go_simp; (try with_reducible rfl); (try (first | (rw [if_pos (by omega)]; (try go_simp); (try with_reducible rfl)) | (rw [if_neg (by omega)]; (try go_simp); (try with_reducible rfl)))))
        try simp only [Act.put, List.setIfInBounds_toArray, List.set_cons_zero, List.set_cons_succ]
        refine wpAnyR_take (i := 1) (v := ?_) [5, 6, 7, 8, 9, 10, 11] (some 92) rfl rfl (by kernel_rfl) (by kernel_rfl) (by kernel_rfl) (by kernel_rfl) (by kernel_rfl) (by kernel_rfl) (by kernel_rfl) (fun _ _ _ h => h) (Or.inl ⟨by rfl, ?_⟩) hS ?_
        rotate_left
        focus (intro wS hSw; (try dsimp only at hSw); go_simp; (try with_reducible rfl); (try (first | (rw [if_pos (by omega)]; (try go_simp); (try with_reducible rfl)) | (rw [if_neg (by omega)]; (try go_simp); (try with_reducible rfl)))))
        try simp only [Act.put, List.setIfInBounds_toArray, List.set_cons_zero, List.set_cons_succ]
        refine wpAnyR_takeQ (i := 2) (v := ?_) (some 93) rfl rfl (by kernel_rfl) (by kernel_rfl) (by kernel_rfl) (by kernel_rfl) (fun _ _ _ h => h) (Or.inl ⟨by rfl, ?_⟩) ?_
        rotate_left
        focus (intro wS hSw; (try dsimp only at hSw); go_simp; (try with_reducible rfl); (try (first | (rw [if_pos (by omega)]; (try go_simp); (try with_reducible rfl)) | (rw [if_neg (by omega)]; (try go_simp); (try with_reducible rfl)))))
        try simp only [Act.put, List.setIfInBounds_toArray, List.set_cons_zero, List.set_cons_succ]
        refine wpAnyR_take (i := 3) (v := ?_) [4, 5, 6, 7, 8, 9, 10, 11] (some 94) rfl rfl (by kernel_rfl) (by kernel_rfl) (by kernel_rfl) (by kernel_rfl) (by kernel_rfl) (by kernel_rfl) (by kernel_rfl) (fun _ _ _ h => h) (Or.inl ⟨by rfl, ?_⟩) hS ?_
        rotate_left
        focus (intro wS hSw; (try dsimp only at hSw); go_simp; (try with_reducible rfl); (try (first | (rw [if_pos (by omega)]; (try go_simp); (try with_reducible rfl)) | (rw [if_neg (by omega)]; (try go_simp); (try with_reducible rfl)))))
        try simp only [Act.put, List.setIfInBounds_toArray, List.set_cons_zero, List.set_cons_succ]
        refine wpAnyR_n1 (i := 4) rfl (by kernel_rfl) ?_
        intro K' hK
        rw [if_pos (by rfl)]
        simp only [List.getElem_toArray, List.getElem_cons_succ, List.getElem_cons_zero]
        go_wp2_with fail
        refine (refjoin_val (w := wm.drew) rfl (by omega) HR.out.runs kj HKJ.out).mono ?_
        rintro e w1 ⟨A1, c1, rfl, hr1, g1⟩
        have HR1 := Lib.hid hr1
        clear hr1
        go_wp2_with fail
        refine hK.out _ _ (.inr (fun _ => (HBX.out.drew.grew g1).cell 4)) ?_
        clear hK hS
        have g1' : Grew wm w1 := (Grew.refl wm).drew.trans g1
        have hS := (HBX.out.grew g1').cell 4
        refine wpAnyR_n1 (i := 5) rfl (by kernel_rfl) ?_
        intro K' hK
        rw [if_pos (by rfl)]
        simp only [List.getElem_toArray, List.getElem_cons_succ, List.getElem_cons_zero]
        go_wp2_with fail
        refine (same_any A A1 c c1 l.ext kj w1 w1.heap.size (Nat.le_refl _) (by omega) (by omega) ((HR.out.runs.keep (Nat.le_refl _) g1').mono2 g1'.size) HR1.out).mono ?_
        rintro e w2 ⟨rfl, g2'⟩
        rw [HJ.out]
        have g2 : Grew wm w2 := g1'.trans g2'
        go_wp2_with fail
        refine hK.out _ _ (.inr (fun _ => (HBX.out.grew g2).cell 4)) ?_
        clear hK hS
        have hS := (HBX.out.grew g2).cell 4
        refine wpAnyR_takeQ (i := 6) (v := ?_) (some 97) rfl rfl (by kernel_rfl) (by kernel_rfl) (by kernel_rfl) (by kernel_rfl) (fun _ _ _ h => h) (Or.inl ⟨by rfl, ?_⟩) ?_
        rotate_left
        focus (intro wS hSw; (try dsimp only at hSw); go_simp; (try with_reducible rfl); (try (first | (rw [if_pos (by omega)]; (try go_simp); (try with_reducible rfl)) | (rw [if_neg (by omega)]; (try go_simp); (try with_reducible rfl)))))
        try simp only [Act.put, List.setIfInBounds_toArray, List.set_cons_zero, List.set_cons_succ]
        refine wpAnyR_takeQ (i := 7) (v := undef) (some 98) rfl rfl (by kernel_rfl) (by kernel_rfl) (by kernel_rfl) (by kernel_rfl) (fun _ _ _ h => h) (Or.inr ⟨by rfl, rfl⟩) ?_
        try simp only [Act.put, List.setIfInBounds_toArray, List.set_cons_zero, List.set_cons_succ]
        refine wpAnyR_takeQ (i := 8) (v := undef) (some 99) rfl rfl (by kernel_rfl) (by kernel_rfl) (by kernel_rfl) (by kernel_rfl) (fun _ _ _ h => h) (Or.inr ⟨by rfl, rfl⟩) ?_
        try simp only [Act.put, List.setIfInBounds_toArray, List.set_cons_zero, List.set_cons_succ]
        refine wpAnyR_takeQ (i := 9) (v := undef) (some 100) rfl rfl (by kernel_rfl) (by kernel_rfl) (by kernel_rfl) (by kernel_rfl) (fun _ _ _ h => h) (Or.inr ⟨by rfl, rfl⟩) ?_
        try simp only [Act.put, List.setIfInBounds_toArray, List.set_cons_zero, List.set_cons_succ]
        refine wpAnyR_takeQ (i := 10) (v := ?_) (some 101) rfl rfl (by kernel_rfl) (by kernel_rfl) (by kernel_rfl) (by kernel_rfl) (fun _ _ _ h => h) (Or.inl ⟨by rfl, ?_⟩) ?_
        rotate_left
        focus (intro wS hSw; (try dsimp only at hSw); go_simp; (try with_reducible rfl); (try (first | (rw [if_pos (by omega)]; (try go_simp); (try with_reducible rfl)) | (rw [if_neg (by omega)]; (try go_simp); (try with_reducible rfl)))))
        try simp only [Act.put, List.setIfInBounds_toArray, List.set_cons_zero, List.set_cons_succ]
        refine wpAnyR_takeQ (i := 11) (v := ?_) (some 4) rfl rfl (by kernel_rfl) (by kernel_rfl) (by kernel_rfl) (by kernel_rfl) (fun _ _ _ h => h) (Or.inl ⟨by rfl, ?_⟩) ?_
        rotate_left
        focus (intro wS hSw; (try dsimp only at hSw); go_simp; (try with_reducible rfl); (try (first | (rw [if_pos (by omega)]; (try go_simp); (try with_reducible rfl)) | (rw [if_neg (by omega)]; (try go_simp); (try with_reducible rfl)))))
        try simp only [Act.put, List.setIfInBounds_toArray, List.set_cons_zero, List.set_cons_succ]
        refine wpAnyR_done (by kernel_rfl) ?_ _
        go_wp2_with fail
        go_ret
        exact ⟨ret_bool (by rw [HVV.out, HJ.out]; rfl), hgm.trans g2⟩
      | true =>
        have HJ := Lib.hid hj
        clear hj
        go_wp2_with fail
        refine wp_region_R [] (fun w' : World => w'.cell? ⟨w.heap.size, 4, none⟩ = some (.slice A l.ext.length c)) (by kernel_rfl) ?_
        have hS := HBX.out.drew.cell 4
        refine wpAnyR_takeQ (i := 0) (v := ?_) (some 91) rfl rfl (by kernel_rfl) (by kernel_rfl) (by kernel_rfl) (by kernel_rfl) (fun _ _ _ h => h) (Or.inl ⟨by rfl, ?_⟩) ?_
        rotate_left
        focus (intro wS hSw; (try dsimp only at hSw); go_simp; (try with_reducible rfl); (try (first | (rw [if_pos (by omega)]; (try go_simp); (try with_reducible rfl)) | (rw [if_neg (by omega)]; (try go_simp); (try with_reducible rfl)))))
        try simp only [Act.put, List.setIfInBounds_toArray, List.set_cons_zero, List.set_cons_succ]
        refine wpAnyR_take (i := 1) (v := ?_) [5, 6, 7, 8, 9, 10, 11] (some 92) rfl rfl (by kernel_rfl) (by kernel_rfl) (by kernel_rfl) (by kernel_rfl) (by kernel_rfl) (by kernel_rfl) (by kernel_rfl) (fun _ _ _ h => h) (Or.inl ⟨by rfl, ?_⟩) hS ?_
        rotate_left
        focus (intro wS hSw; (try dsimp only at hSw); go_simp; (try with_reducible rfl); (try (first | (rw [if_pos (by omega)]; (try go_simp); (try with_reducible rfl)) | (rw [if_neg (by omega)]; (try go_simp); (try with_reducible rfl)))))
        try simp only [Act.put, List.setIfInBounds_toArray, List.set_cons_zero, List.set_cons_succ]
        refine wpAnyR_takeQ (i := 2) (v := ?_) (some 93) rfl rfl (by kernel_rfl) (by kernel_rfl) (by kernel_rfl) (by kernel_rfl) (fun _ _ _ h => h) (Or.inl ⟨by rfl, ?_⟩) ?_
        rotate_left
        focus (intro wS hSw; (try dsimp only at hSw); go_simp; (try with_reducible rfl); (try (first | (rw [if_pos (by omega)]; (try go_simp); (try with_reducible rfl)) | (rw [if_neg (by omega)]; (try go_simp); (try with_reducible rfl)))))
        try simp only [Act.put, List.setIfInBounds_toArray, List.set_cons_zero, List.set_cons_succ]
        refine wpAnyR_take (i := 3) (v := ?_) [4, 5, 6, 7, 8, 9, 10, 11] (some 94) rfl rfl (by kernel_rfl) (by kernel_rfl) (by kernel_rfl) (by kernel_rfl) (by kernel_rfl) (by kernel_rfl) (by kernel_rfl) (fun _ _ _ h => h) (Or.inl ⟨by rfl, ?_⟩) hS ?_
        rotate_left
        focus (intro wS hSw; (try dsimp only at hSw); go_simp; (try with_reducible rfl); (try (first | (rw [if_pos (by omega)]; (try go_simp); (try with_reducible rfl)) | (rw [if_neg (by omega)]; (try go_simp); (try with_reducible rfl)))))
        try simp only [Act.put, List.setIfInBounds_toArray, List.set_cons_zero, List.set_cons_succ]
        refine wpAnyR_n1 (i := 4) rfl (by kernel_rfl) ?_
        intro K' hK
        rw [if_pos (by rfl)]
        simp only [List.getElem_toArray, List.getElem_cons_succ, List.getElem_cons_zero]
        go_wp2_with fail
        refine (refjoin_val (w := wm.drew) rfl (by omega) HR.out.runs kj HKJ.out).mono ?_
        rintro e w1 ⟨A1, c1, rfl, hr1, g1⟩
        have HR1 := Lib.hid hr1
        clear hr1
        go_wp2_with fail
        refine hK.out _ _ (.inr (fun _ => (HBX.out.drew.grew g1).cell 4)) ?_
        clear hK hS
        have g1' : Grew wm w1 := (Grew.refl wm).drew.trans g1
        have hS := (HBX.out.grew g1').cell 4
        refine wpAnyR_n1 (i := 5) rfl (by kernel_rfl) ?_
        intro K' hK
        rw [if_pos (by rfl)]
        simp only [List.getElem_toArray, List.getElem_cons_succ, List.getElem_cons_zero]
        go_wp2_with fail
        refine (same_any A A1 c c1 l.ext kj w1 w1.heap.size (Nat.le_refl _) (by omega) (by omega) ((HR.out.runs.keep (Nat.le_refl _) g1').mono2 g1'.size) HR1.out).mono ?_
        rintro e w2 ⟨rfl, g2'⟩
        rw [HJ.out]
        have g2 : Grew wm w2 := g1'.trans g2'
        go_wp2_with fail
        refine hK.out _ _ (.inr (fun _ => (HBX.out.grew g2).cell 4)) ?_
        clear hK hS
        have hS := (HBX.out.grew g2).cell 4
        refine wpAnyR_takeQ (i := 6) (v := ?_) (some 97) rfl rfl (by kernel_rfl) (by kernel_rfl) (by kernel_rfl) (by kernel_rfl) (fun _ _ _ h => h) (Or.inl ⟨by rfl, ?_⟩) ?_
        rotate_left
        focus (intro wS hSw; (try dsimp only at hSw); go_simp; (try with_reducible rfl); (try (first | (rw [if_pos (by omega)]; (try go_simp); (try with_reducible rfl)) | (rw [if_neg (by omega)]; (try go_simp); (try with_reducible rfl)))))
        try simp only [Act.put, List.setIfInBounds_toArray, List.set_cons_zero, List.set_cons_succ]
        refine wpAnyR_takeQ (i := 7) (v := ?_) (some 98) rfl rfl (by kernel_rfl) (by kernel_rfl) (by kernel_rfl) (by kernel_rfl) (fun _ _ _ h => h) (Or.inl ⟨by rfl, ?_⟩) ?_
        rotate_left
        focus (intro wS hSw; (try dsimp only at hSw); go_simp; (try with_reducible rfl); (try (first | (rw [if_pos (by omega)]; (try go_simp); (try with_reducible rfl)) | (rw [if_neg (by omega)]; (try go_simp); (try with_reducible rfl)))))
        try simp only [Act.put, List.setIfInBounds_toArray, List.set_cons_zero, List.set_cons_succ]
        refine wpAnyR_take (i := 8) (v := ?_) [9, 10, 11] (some 99) rfl rfl (by kernel_rfl) (by kernel_rfl) (by kernel_rfl) (by kernel_rfl) (by kernel_rfl) (by kernel_rfl) (by kernel_rfl) (fun _ _ _ h => h) (Or.inl ⟨by rfl, ?_⟩) hS ?_
        rotate_left
        focus (intro wS hSw; (try dsimp only at hSw); go_simp; (try with_reducible rfl); (try (first | (rw [if_pos (by omega)]; (try go_simp); (try with_reducible rfl)) | (rw [if_neg (by omega)]; (try go_simp); (try with_reducible rfl)))))
        try simp only [Act.put, List.setIfInBounds_toArray, List.set_cons_zero, List.set_cons_succ]
        refine wpAnyR_n1 (i := 9) rfl (by kernel_rfl) ?_
        intro K' hK
        rw [if_pos (by rfl)]
        simp only [List.getElem_toArray, List.getElem_cons_succ, List.getElem_cons_zero]
        go_wp2_with fail
        refine (refdisj_val rfl (by omega) ((HR.out.runs.keep (Nat.le_refl _) g2).mono2 g2.size) _ rfl).mono ?_
        rintro e w3 ⟨rfl, g3⟩
        have HG3 := Lib.hid (g2.trans g3)
        clear g3
        go_wp2_with fail
        refine hK.out _ _ (.inr (fun _ => (HBX.out.grew HG3.out).cell 4)) ?_
        clear hK
        refine wpAnyR_takeQ (i := 10) (v := ?_) (some 101) rfl rfl (by kernel_rfl) (by kernel_rfl) (by kernel_rfl) (by kernel_rfl) (fun _ _ _ h => h) (Or.inl ⟨by rfl, ?_⟩) ?_
        rotate_left
        focus (intro wS hSw; (try dsimp only at hSw); go_simp; (try with_reducible rfl); (try (first | (rw [if_pos (by omega)]; (try go_simp); (try with_reducible rfl)) | (rw [if_neg (by omega)]; (try go_simp); (try with_reducible rfl)))))
        try simp only [Act.put, List.setIfInBounds_toArray, List.set_cons_zero, List.set_cons_succ]
        refine wpAnyR_takeQ (i := 11) (v := ?_) (some 4) rfl rfl (by kernel_rfl) (by kernel_rfl) (by kernel_rfl) (by kernel_rfl) (fun _ _ _ h => h) (Or.inl ⟨by rfl, ?_⟩) ?_
        rotate_left
        focus (intro wS hSw; (try dsimp only at hSw); go_simp; (try with_reducible rfl); (try (first | (rw [if_pos (by omega)]; (try go_simp); (try with_reducible rfl)) | (rw [if_neg (by omega)]; (try go_simp); (try with_reducible rfl)))))
        try simp only [Act.put, List.setIfInBounds_toArray, List.set_cons_zero, List.set_cons_succ]
        refine wpAnyR_done (by kernel_rfl) ?_ _
        go_wp2_with fail
        go_ret
        exact ⟨ret_bool (by rw [HVV.out, HJ.out, Bool.true_and]), hgm.trans HG3.out⟩
set_option maxRecDepth 100000 in
theorem rvalid_lab (h : LabAt w A c l) (hs : l.ext.length ≤ 100000) (t0 : -9223372036854775808 ≤ t) (t1 : t ≤ 9223372036854775807) :
    Calls Try.prog 13 #[.agg #[.int .i64 l.id, .int .i64 l.unit, .string l.name, .string l.note, .slice A l.ext.length c], .int .i64 t] w fun e w' => e = .returned (.bool (validL l t)) ∧ Grew w w' :=
  rvalid_or A c l t w (fun ho a1 a2 a3 a4 a5 a6 a7 a8 => rvalid_yes A c l t w ho a1 a2 a3 a4 a5 a6 a7 a8 h hs t0 t1) h hs t0 t1
end
end Go.Proofs.Ytkiciojipiakoaa
