/- Chapter 7: the reference's Valid, where the first test is passed. Plain facts on the encoding of numbers, and AppendNumber's walk. Number's walk (the reference's encoding). The other appends. decode's walk. The reader's methods. The reader's methods, built on Number. The reference's readers. The reference's readers, built on ReadNumber. Plain facts: what is encoded is decoded, and the other way round. Chapter 7: fill, Padded, Zero. -/
import Derived.IntWalk
import Derived.WalkKit
import Derived.WalkSpells
import Derived.WalkLawsBesides
import Derived.Handy
import Derived.Lib.Hide
import Derived.Deep.RegionWith
import Derived.Deep.RegionHeld3
import Derived.Deep.DrawnRows
import Derived.PlainAid
import Derived.RegionTactic
import Derived.ChangeAlike
import Derived.OwnWalk
import Derived.Test.YtnlaogneceanoaaGreatCxA
import Derived.Test.YtnlaogneceanoaaGreatCxC
namespace Go.Proofs.YtnlaogneceanoaaGreat
set_option linter.unusedVariables false
set_option linter.unusedSimpArgs false
set_option linter.unusedSectionVars false
open Go.RowKit
attribute [local go_sem ↓] Go.wp_at_zero Go.wp_at_succ
section
variable (A : Option Addr) (c : Nat) (l : Lab) (t : Int) (w : World)
set_option maxRecDepth 100000 in
set_option maxHeartbeats 4000000 in
/-- What stands behind the first test. -/
theorem rvalid_yes (ho : okT t = true) (a1 : 1 ≤ l.id) (a2 : l.id ≤ 1099511627776) (a3 : 0 ≤ l.unit) (a4 : l.unit ≤ 1099511627776) (a5 : l.name.size ≤ 31) (a6 : l.note.size ≤ 400) (a7 : 1 ≤ l.ext.length) (a8 : l.ext.length ≤ 16) (h : LabAt w A c l) (hs : l.ext.length ≤ 100000) (t0 : -9223372036854775808 ≤ t) (t1 : t ≤ 9223372036854775807) :
    Calls Tryz.prog 51 #[.agg #[.int .i64 l.id, .int .i64 l.unit, .string l.name, .string l.note, .slice A l.ext.length c], .int .i64 t] w fun e w' => e = .returned (.bool (validL l t)) ∧ Grew w w' := by
  have HL := Lib.hid h
  have HB0 := Lib.hid (Blk.new w 31 #[.int .i64 l.id, .int .i64 l.unit, .string l.name, .string l.note, .slice A l.ext.length c] rfl)
  have HG0 := Lib.hid ((Grew.refl w).alloc (.cells #[.int .i64 l.id, .int .i64 l.unit, .string l.name, .string l.note, .slice A l.ext.length c] 31))
  have hi0 := h.id0
  have hi1 := h.id1
  have hu0 := h.unit0
  have hu1 := h.unit1
  have hns := h.name
  have hts := h.note
  have HF0 := Lib.hid (fun (hx : okT t = false) => valid_false l t 0 hx)
  have HF1 := Lib.hid (fun (hx : ¬ (1 ≤ l.id ∧ l.id ≤ 1099511627776 ∧ 0 ≤ l.unit ∧ l.unit ≤ 1099511627776)) => valid_false l t 1 (by show idB l = false; unfold idB; exact decide_eq_false hx))
  have HF2 := Lib.hid (fun (hx : ¬ (l.name.size ≤ 31 ∧ l.note.size ≤ 400)) => valid_false l t 2 (by show txB l = false; unfold txB; exact decide_eq_false hx))
  have HF3 := Lib.hid (fun (hx : ¬ (1 ≤ l.ext.length ∧ l.ext.length ≤ 16)) => valid_false l t 3 (by show cnB l = false; unfold cnB; exact decide_eq_false hx))
  have HNR := Lib.hid (valid_norok l t)
  have HJN := Lib.hid (valid_jn l t)
  have HT1 := Lib.hid (fun (hx : 1 ≤ l.id ∧ l.id ≤ 1099511627776 ∧ 0 ≤ l.unit ∧ l.unit ≤ 1099511627776) => show idB l = true from by unfold idB; exact decide_eq_true hx)
  have HT2 := Lib.hid (fun (hx : l.name.size ≤ 31 ∧ l.note.size ≤ 400) => show txB l = true from by unfold txB; exact decide_eq_true hx)
  have HT3 := Lib.hid (fun (hx : 1 ≤ l.ext.length ∧ l.ext.length ≤ 16) => show cnB l = true from by unfold cnB; exact decide_eq_true hx)
  have HVJ := Lib.hid (show jnB l = (decide (l.ext = ints (joinS l.ext)) && decide (seqS l.ext).Nodup) from by
    unfold jnB; congr 1; simp only [eq_comm])
  clear h
  have HO := Lib.hid ho
  obtain ⟨ht4, ht8⟩ := okT_true ho
  clear ho
  have a5i : (l.name.size : Int) ≤ 31 := by omega
  have a6i : (l.note.size : Int) ≤ 400 := by omega
  have a7i : 1 ≤ (l.ext.length : Int) := by omega
  have a8i : (l.ext.length : Int) ≤ 16 := by omega
  have HI1 := Lib.hid (HT1.out ⟨a1, a2, a3, a4⟩)
  have HI2 := Lib.hid (HT2.out ⟨a5, a6⟩)
  have HI3 := Lib.hid (HT3.out ⟨a7, a8⟩)
  go_enter Tryz.func51, Tryz.ntmps51
  go_wp2_with fail
  refine (rvalid_any _ _).mono ?_
  rintro e w1 ⟨rfl, rfl⟩
  rw [HO.out]
  obtain ⟨tt, htt⟩ : ∃ tt, ttS t = tt := ⟨_, rfl⟩
  have htb := ttS_bd t
  rw [htt] at htb
  obtain ⟨htb0, htb1⟩ := htb
  have HTT := Lib.hid htt
  have HTC := Lib.hid (fun w => (rtable_any t w))
  clear htt
  go_wp2_with fail
  go_loopg [5] l.ext.length (fun gk i wr => ∃ k : Nat, k ≤ l.ext.length ∧ gk = l.ext.length - k ∧ i = .int .i64 k ∧ (∀ j (hj : j < l.ext.length), j < k → rokR t l.ext[j]) ∧ Grew (w.alloc (.cells #[.int .i64 l.id, .int .i64 l.unit, .string l.name, .string l.note, .slice A l.ext.length c] 31)) wr)
  case atStart => exact ⟨0, by omega, by omega, rfl, fun j hj h => by omega, Grew.refl _⟩
  case round =>
    obtain ⟨k, hk, hgk, rfl, hall, hg⟩ := hrel
    have HGK := Lib.hid hgk
    have HA := Lib.hid hall
    have HG := Lib.hid hg
    have hbx := HB0.out.grew hg
    have x4 := hbx.cell 4
    have hbl := hbx.lt
    have HR := Lib.hid (HL.out.hold (HG0.out.trans hg))
    have HBX := Lib.hid hbx
    clear hgk hall hbx
    by_cases hlt : k < l.ext.length
    · obtain ⟨b, off, f, n, rfl, hb, hv, hok, c0, c1⟩ := HR.out.runs.at_ hlt
      obtain ⟨k0, k1, k2, k3⟩ := hok
      simp only at k0 k1 k2 k3
      have HBAD := Lib.hid (show ¬ rokR t (f, n) → validL l t = false from fun h => HNR.out (f, n) (by rw [← hv]; exact List.getElem_mem hlt) h)
      have HOKN := Lib.hid (show rokR t (f, n) → ∀ j (hj : j < l.ext.length), j < k + 1 → rokR t l.ext[j] from fun h j hj hjk => by
        by_cases hjk' : j = k
        · subst hjk'; rw [hv]; exact h
        · exact HA.out j hj (by omega))
      have HRD := Lib.hid (show rokR t (f, n) ↔ (tt ≤ f ∧ f < t ∧ 1 ≤ n ∧ n ≤ t - f) from by unfold rokR; rw [HTT.out])
      clear hv hg
      by_cases r1 : tt ≤ f
      rotate_left
      · have dr1 : decide (f < tt) = true := decide_eq_true (by omega)
        have HE := Lib.hid (HBAD.out (fun h => by have := HRD.out.1 h; omega))
        go_wp2_with fail
        go_quiet ((go_at_call 48; exact Calls.quiet_of_same ((HTC.out _).mono (fun _ _ h => ⟨by rw [HTT.out] at h; exact h.1, h.2.symm⟩))))
        go_wp2_with fail
        go_ret
        exact ⟨ret_bool (by rw [HE.out]), ((HG0.out.trans HG.out).alloc _).drewN _⟩
      have dr1 : decide (f < tt) = false := decide_eq_false (by omega)
      by_cases r2 : f < t
      rotate_left
      · have dr2 : decide (t ≤ f) = true := decide_eq_true (by omega)
        have HE := Lib.hid (HBAD.out (fun h => by have := HRD.out.1 h; omega))
        go_wp2_with fail
        go_quiet ((go_at_call 48; exact Calls.quiet_of_same ((HTC.out _).mono (fun _ _ h => ⟨by rw [HTT.out] at h; exact h.1, h.2.symm⟩))))
        go_wp2_with fail
        go_ret
        exact ⟨ret_bool (by rw [HE.out]), ((HG0.out.trans HG.out).alloc _).drewN _⟩
      have dr2 : decide (t ≤ f) = false := decide_eq_false (by omega)
      have hsub : IntKind.i64.wrap (t - f) = t - f := IntWalk.i64_in _ (by omega)
      by_cases r3 : 1 ≤ n
      rotate_left
      · have dr3 : decide (n < 1) = true := decide_eq_true (by omega)
        have HE := Lib.hid (HBAD.out (fun h => by have := HRD.out.1 h; omega))
        go_wp2_with fail
        go_quiet ((go_at_call 48; exact Calls.quiet_of_same ((HTC.out _).mono (fun _ _ h => ⟨by rw [HTT.out] at h; exact h.1, h.2.symm⟩))))
        go_wp2_with fail
        go_ret
        exact ⟨ret_bool (by rw [HE.out]), ((HG0.out.trans HG.out).alloc _).drewN _⟩
      have dr3 : decide (n < 1) = false := decide_eq_false (by omega)
      by_cases r4 : n ≤ t - f
      rotate_left
      · have dr4 : decide (t - f < n) = true := decide_eq_true (by omega)
        have HE := Lib.hid (HBAD.out (fun h => by have := HRD.out.1 h; omega))
        go_wp2_with fail
        go_quiet ((go_at_call 48; exact Calls.quiet_of_same ((HTC.out _).mono (fun _ _ h => ⟨by rw [HTT.out] at h; exact h.1, h.2.symm⟩))))
        go_wp2_with fail
        go_ret
        exact ⟨ret_bool (by rw [HE.out]), ((HG0.out.trans HG.out).alloc _).drewN _⟩
      have dr4 : decide (t - f < n) = false := decide_eq_false (by omega)
      have HN := Lib.hid (HOKN.out (HRD.out.2 ⟨r1, r2, r3, r4⟩))
      go_wp2_with fail
      go_quiet ((go_at_call 48; exact Calls.quiet_of_same ((HTC.out _).mono (fun _ _ h => ⟨by rw [HTT.out] at h; exact h.1, h.2.symm⟩))))
      go_wp2_with fail
      go_roundg (l.ext.length - (k + 1))
      case measure => rw [HGK.out]; omega
      case rel => exact ⟨k + 1, by omega, by omega, by go_num, HN.out, (HG.out.alloc _).drewN _⟩
    · have HALL := Lib.hid (show validL l t = jnB l from HJN.out HO.out HI1.out HI2.out HI3.out (fun r hr => by
        obtain ⟨j, hj, rfl⟩ := List.getElem_of_mem hr
        exact HA.out j hj (by omega)))
      obtain ⟨kj, hkj⟩ : ∃ kj, ints (joinS l.ext) = kj := ⟨_, rfl⟩
      have hkl : kj.length ≤ l.ext.length := by rw [← hkj, ints_len]; exact joinS_len _
      have HKJ := Lib.hid hkj
      have HVV := Lib.hid (show validL l t = (decide (l.ext = kj) && decide (seqS l.ext).Nodup) from by rw [HALL.out, HVJ.out, hkj])
      obtain ⟨wm, hwm⟩ : ∃ wm, wm = wr := ⟨_, rfl⟩
      subst hwm
      have hgm := HG0.out.trans hg
      clear hkj hg
      cases hj : decide (l.ext = kj) with
      | false =>
        have HJ := Lib.hid hj
        clear hj
        go_wp2_with fail
        refine wp_region_R [] (fun w' : World => w'.cell? ⟨w.heap.size, 4, none⟩ = some (.slice A l.ext.length c)) (by kernel_rfl) ?_
        have hS := HBX.out.drew.cell 4
        refine wpAnyR_takeQ (i := 0) (v := ?_) (some 91) rfl rfl (by kernel_rfl) (by kernel_rfl) (by kernel_rfl) (by kernel_rfl) (fun _ _ _ h => h) (Or.inl ⟨by rfl, ?_⟩) ?_
        rotate_left
        focus (intro wS hSw; (try dsimp only at hSw); go_simp; (try with_reducible rfl); (try (first | (rw [if_pos (by omega)]; (try go_simp); (try with_reducible rfl)) | (rw [if_neg (by omega)]; (try go_simp); (try with_reducible rfl)))))
        try simp only [Act.put, zA, zB, zC]
        refine wpAnyR_take (i := 1) (v := ?_) [5, 6, 7, 8, 9, 10, 11] (some 92) rfl rfl (by kernel_rfl) (by kernel_rfl) (by kernel_rfl) (by kernel_rfl) (by kernel_rfl) (by kernel_rfl) (by kernel_rfl) (fun _ _ _ h => h) (Or.inl ⟨by rfl, ?_⟩) hS ?_
        rotate_left
        focus (intro wS hSw; (try dsimp only at hSw); go_simp; (try with_reducible rfl); (try (first | (rw [if_pos (by omega)]; (try go_simp); (try with_reducible rfl)) | (rw [if_neg (by omega)]; (try go_simp); (try with_reducible rfl)))))
        try simp only [Act.put, zA, zB, zC]
        refine wpAnyR_takeQ (i := 2) (v := ?_) (some 93) rfl rfl (by kernel_rfl) (by kernel_rfl) (by kernel_rfl) (by kernel_rfl) (fun _ _ _ h => h) (Or.inl ⟨by rfl, ?_⟩) ?_
        rotate_left
        focus (intro wS hSw; (try dsimp only at hSw); go_simp; (try with_reducible rfl); (try (first | (rw [if_pos (by omega)]; (try go_simp); (try with_reducible rfl)) | (rw [if_neg (by omega)]; (try go_simp); (try with_reducible rfl)))))
        try simp only [Act.put, zA, zB, zC]
        refine wpAnyR_take (i := 3) (v := ?_) [4, 5, 6, 7, 8, 9, 10, 11] (some 94) rfl rfl (by kernel_rfl) (by kernel_rfl) (by kernel_rfl) (by kernel_rfl) (by kernel_rfl) (by kernel_rfl) (by kernel_rfl) (fun _ _ _ h => h) (Or.inl ⟨by rfl, ?_⟩) hS ?_
        rotate_left
        focus (intro wS hSw; (try dsimp only at hSw); go_simp; (try with_reducible rfl); (try (first | (rw [if_pos (by omega)]; (try go_simp); (try with_reducible rfl)) | (rw [if_neg (by omega)]; (try go_simp); (try with_reducible rfl)))))
        try simp only [Act.put, zA, zB, zC]
        refine wpAnyR_n1 (i := 4) rfl (by kernel_rfl) ?_
        intro K' hK
        rw [if_pos (by rfl)]
        simp only [List.getElem_toArray, List.getElem_cons_succ, List.getElem_cons_zero]
        go_wp2_with fail
        refine (refjoin_val (w := wm.drew) rfl (by omega) HR.out.runs kj HKJ.out).mono ?_
        rintro e w1 ⟨A1, c1, rfl, hr1, g1⟩
        have HR1 := Lib.hid hr1
        clear hr1
        go_wp2_with fail
        refine hK.out _ _ (.inr (fun _ => (HBX.out.drew.grew g1).cell 4)) ?_
        clear hK hS
        have g1' : Grew wm w1 := (Grew.refl wm).drew.trans g1
        have hS := (HBX.out.grew g1').cell 4
        refine wpAnyR_n1 (i := 5) rfl (by kernel_rfl) ?_
        intro K' hK
        rw [if_pos (by rfl)]
        simp only [List.getElem_toArray, List.getElem_cons_succ, List.getElem_cons_zero]
        go_wp2_with fail
        refine (same_any A A1 c c1 l.ext kj w1 w1.heap.size (Nat.le_refl _) (by omega) (by omega) ((HR.out.runs.keep (Nat.le_refl _) g1').mono2 g1'.size) HR1.out).mono ?_
        rintro e w2 ⟨rfl, g2'⟩
        rw [HJ.out]
        have g2 : Grew wm w2 := g1'.trans g2'
        go_wp2_with fail
        refine hK.out _ _ (.inr (fun _ => (HBX.out.grew g2).cell 4)) ?_
        clear hK hS
        have hS := (HBX.out.grew g2).cell 4
        refine wpAnyR_takeQ (i := 6) (v := ?_) (some 97) rfl rfl (by kernel_rfl) (by kernel_rfl) (by kernel_rfl) (by kernel_rfl) (fun _ _ _ h => h) (Or.inl ⟨by rfl, ?_⟩) ?_
        rotate_left
        focus (intro wS hSw; (try dsimp only at hSw); go_simp; (try with_reducible rfl); (try (first | (rw [if_pos (by omega)]; (try go_simp); (try with_reducible rfl)) | (rw [if_neg (by omega)]; (try go_simp); (try with_reducible rfl)))))
        try simp only [Act.put, zA, zB, zC]
        refine wpAnyR_takeQ (i := 7) (v := undef) (some 98) rfl rfl (by kernel_rfl) (by kernel_rfl) (by kernel_rfl) (by kernel_rfl) (fun _ _ _ h => h) (Or.inr ⟨by rfl, rfl⟩) ?_
        try simp only [Act.put, zA, zB, zC]
        refine wpAnyR_takeQ (i := 8) (v := undef) (some 99) rfl rfl (by kernel_rfl) (by kernel_rfl) (by kernel_rfl) (by kernel_rfl) (fun _ _ _ h => h) (Or.inr ⟨by rfl, rfl⟩) ?_
        try simp only [Act.put, zA, zB, zC]
        refine wpAnyR_takeQ (i := 9) (v := undef) (some 100) rfl rfl (by kernel_rfl) (by kernel_rfl) (by kernel_rfl) (by kernel_rfl) (fun _ _ _ h => h) (Or.inr ⟨by rfl, rfl⟩) ?_
        try simp only [Act.put, zA, zB, zC]
        refine wpAnyR_takeQ (i := 10) (v := ?_) (some 101) rfl rfl (by kernel_rfl) (by kernel_rfl) (by kernel_rfl) (by kernel_rfl) (fun _ _ _ h => h) (Or.inl ⟨by rfl, ?_⟩) ?_
        rotate_left
        focus (intro wS hSw; (try dsimp only at hSw); go_simp; (try with_reducible rfl); (try (first | (rw [if_pos (by omega)]; (try go_simp); (try with_reducible rfl)) | (rw [if_neg (by omega)]; (try go_simp); (try with_reducible rfl)))))
        try simp only [Act.put, zA, zB, zC]
        refine wpAnyR_takeQ (i := 11) (v := ?_) (some 4) rfl rfl (by kernel_rfl) (by kernel_rfl) (by kernel_rfl) (by kernel_rfl) (fun _ _ _ h => h) (Or.inl ⟨by rfl, ?_⟩) ?_
        rotate_left
        focus (intro wS hSw; (try dsimp only at hSw); go_simp; (try with_reducible rfl); (try (first | (rw [if_pos (by omega)]; (try go_simp); (try with_reducible rfl)) | (rw [if_neg (by omega)]; (try go_simp); (try with_reducible rfl)))))
        try simp only [Act.put, zA, zB, zC]
        refine wpAnyR_done (by kernel_rfl) ?_ _
        go_wp2_with fail
        go_ret
        exact ⟨ret_bool (by rw [HVV.out, HJ.out]; rfl), hgm.trans g2⟩
      | true =>
        have HJ := Lib.hid hj
        clear hj
        go_wp2_with fail
        refine wp_region_R [] (fun w' : World => w'.cell? ⟨w.heap.size, 4, none⟩ = some (.slice A l.ext.length c)) (by kernel_rfl) ?_
        have hS := HBX.out.drew.cell 4
        refine wpAnyR_takeQ (i := 0) (v := ?_) (some 91) rfl rfl (by kernel_rfl) (by kernel_rfl) (by kernel_rfl) (by kernel_rfl) (fun _ _ _ h => h) (Or.inl ⟨by rfl, ?_⟩) ?_
        rotate_left
        focus (intro wS hSw; (try dsimp only at hSw); go_simp; (try with_reducible rfl); (try (first | (rw [if_pos (by omega)]; (try go_simp); (try with_reducible rfl)) | (rw [if_neg (by omega)]; (try go_simp); (try with_reducible rfl)))))
        try simp only [Act.put, zA, zB, zC]
        refine wpAnyR_take (i := 1) (v := ?_) [5, 6, 7, 8, 9, 10, 11] (some 92) rfl rfl (by kernel_rfl) (by kernel_rfl) (by kernel_rfl) (by kernel_rfl) (by kernel_rfl) (by kernel_rfl) (by kernel_rfl) (fun _ _ _ h => h) (Or.inl ⟨by rfl, ?_⟩) hS ?_
        rotate_left
        focus (intro wS hSw; (try dsimp only at hSw); go_simp; (try with_reducible rfl); (try (first | (rw [if_pos (by omega)]; (try go_simp); (try with_reducible rfl)) | (rw [if_neg (by omega)]; (try go_simp); (try with_reducible rfl)))))
        try simp only [Act.put, zA, zB, zC]
        refine wpAnyR_takeQ (i := 2) (v := ?_) (some 93) rfl rfl (by kernel_rfl) (by kernel_rfl) (by kernel_rfl) (by kernel_rfl) (fun _ _ _ h => h) (Or.inl ⟨by rfl, ?_⟩) ?_
        rotate_left
        focus (intro wS hSw; (try dsimp only at hSw); go_simp; (try with_reducible rfl); (try (first | (rw [if_pos (by omega)]; (try go_simp); (try with_reducible rfl)) | (rw [if_neg (by omega)]; (try go_simp); (try with_reducible rfl)))))
        try simp only [Act.put, zA, zB, zC]
        refine wpAnyR_take (i := 3) (v := ?_) [4, 5, 6, 7, 8, 9, 10, 11] (some 94) rfl rfl (by kernel_rfl) (by kernel_rfl) (by kernel_rfl) (by kernel_rfl) (by kernel_rfl) (by kernel_rfl) (by kernel_rfl) (fun _ _ _ h => h) (Or.inl ⟨by rfl, ?_⟩) hS ?_
        rotate_left
        focus (intro wS hSw; (try dsimp only at hSw); go_simp; (try with_reducible rfl); (try (first | (rw [if_pos (by omega)]; (try go_simp); (try with_reducible rfl)) | (rw [if_neg (by omega)]; (try go_simp); (try with_reducible rfl)))))
        try simp only [Act.put, zA, zB, zC]
        refine wpAnyR_n1 (i := 4) rfl (by kernel_rfl) ?_
        intro K' hK
        rw [if_pos (by rfl)]
        simp only [List.getElem_toArray, List.getElem_cons_succ, List.getElem_cons_zero]
        go_wp2_with fail
        refine (refjoin_val (w := wm.drew) rfl (by omega) HR.out.runs kj HKJ.out).mono ?_
        rintro e w1 ⟨A1, c1, rfl, hr1, g1⟩
        have HR1 := Lib.hid hr1
        clear hr1
        go_wp2_with fail
        refine hK.out _ _ (.inr (fun _ => (HBX.out.drew.grew g1).cell 4)) ?_
        clear hK hS
        have g1' : Grew wm w1 := (Grew.refl wm).drew.trans g1
        have hS := (HBX.out.grew g1').cell 4
        refine wpAnyR_n1 (i := 5) rfl (by kernel_rfl) ?_
        intro K' hK
        rw [if_pos (by rfl)]
        simp only [List.getElem_toArray, List.getElem_cons_succ, List.getElem_cons_zero]
        go_wp2_with fail
        refine (same_any A A1 c c1 l.ext kj w1 w1.heap.size (Nat.le_refl _) (by omega) (by omega) ((HR.out.runs.keep (Nat.le_refl _) g1').mono2 g1'.size) HR1.out).mono ?_
        rintro e w2 ⟨rfl, g2'⟩
        rw [HJ.out]
        have g2 : Grew wm w2 := g1'.trans g2'
        go_wp2_with fail
        refine hK.out _ _ (.inr (fun _ => (HBX.out.grew g2).cell 4)) ?_
        clear hK hS
        have hS := (HBX.out.grew g2).cell 4
        refine wpAnyR_takeQ (i := 6) (v := ?_) (some 97) rfl rfl (by kernel_rfl) (by kernel_rfl) (by kernel_rfl) (by kernel_rfl) (fun _ _ _ h => h) (Or.inl ⟨by rfl, ?_⟩) ?_
        rotate_left
        focus (intro wS hSw; (try dsimp only at hSw); go_simp; (try with_reducible rfl); (try (first | (rw [if_pos (by omega)]; (try go_simp); (try with_reducible rfl)) | (rw [if_neg (by omega)]; (try go_simp); (try with_reducible rfl)))))
        try simp only [Act.put, zA, zB, zC]
        refine wpAnyR_takeQ (i := 7) (v := ?_) (some 98) rfl rfl (by kernel_rfl) (by kernel_rfl) (by kernel_rfl) (by kernel_rfl) (fun _ _ _ h => h) (Or.inl ⟨by rfl, ?_⟩) ?_
        rotate_left
        focus (intro wS hSw; (try dsimp only at hSw); go_simp; (try with_reducible rfl); (try (first | (rw [if_pos (by omega)]; (try go_simp); (try with_reducible rfl)) | (rw [if_neg (by omega)]; (try go_simp); (try with_reducible rfl)))))
        try simp only [Act.put, zA, zB, zC]
        refine wpAnyR_take (i := 8) (v := ?_) [9, 10, 11] (some 99) rfl rfl (by kernel_rfl) (by kernel_rfl) (by kernel_rfl) (by kernel_rfl) (by kernel_rfl) (by kernel_rfl) (by kernel_rfl) (fun _ _ _ h => h) (Or.inl ⟨by rfl, ?_⟩) hS ?_
        rotate_left
        focus (intro wS hSw; (try dsimp only at hSw); go_simp; (try with_reducible rfl); (try (first | (rw [if_pos (by omega)]; (try go_simp); (try with_reducible rfl)) | (rw [if_neg (by omega)]; (try go_simp); (try with_reducible rfl)))))
        try simp only [Act.put, zA, zB, zC]
        refine wpAnyR_n1 (i := 9) rfl (by kernel_rfl) ?_
        intro K' hK
        rw [if_pos (by rfl)]
        simp only [List.getElem_toArray, List.getElem_cons_succ, List.getElem_cons_zero]
        go_wp2_with fail
        refine (refdisj_val rfl (by omega) ((HR.out.runs.keep (Nat.le_refl _) g2).mono2 g2.size) _ rfl).mono ?_
        rintro e w3 ⟨rfl, g3⟩
        have HG3 := Lib.hid (g2.trans g3)
        clear g3
        go_wp2_with fail
        refine hK.out _ _ (.inr (fun _ => (HBX.out.grew HG3.out).cell 4)) ?_
        clear hK
        refine wpAnyR_takeQ (i := 10) (v := ?_) (some 101) rfl rfl (by kernel_rfl) (by kernel_rfl) (by kernel_rfl) (by kernel_rfl) (fun _ _ _ h => h) (Or.inl ⟨by rfl, ?_⟩) ?_
        rotate_left
        focus (intro wS hSw; (try dsimp only at hSw); go_simp; (try with_reducible rfl); (try (first | (rw [if_pos (by omega)]; (try go_simp); (try with_reducible rfl)) | (rw [if_neg (by omega)]; (try go_simp); (try with_reducible rfl)))))
        try simp only [Act.put, zA, zB, zC]
        refine wpAnyR_takeQ (i := 11) (v := ?_) (some 4) rfl rfl (by kernel_rfl) (by kernel_rfl) (by kernel_rfl) (by kernel_rfl) (fun _ _ _ h => h) (Or.inl ⟨by rfl, ?_⟩) ?_
        rotate_left
        focus (intro wS hSw; (try dsimp only at hSw); go_simp; (try with_reducible rfl); (try (first | (rw [if_pos (by omega)]; (try go_simp); (try with_reducible rfl)) | (rw [if_neg (by omega)]; (try go_simp); (try with_reducible rfl)))))
        try simp only [Act.put, zA, zB, zC]
        refine wpAnyR_done (by kernel_rfl) ?_ _
        go_wp2_with fail
        go_ret
        exact ⟨ret_bool (by rw [HVV.out, HJ.out, Bool.true_and]), hgm.trans HG3.out⟩
set_option maxRecDepth 100000 in
theorem rvalid_lab (h : LabAt w A c l) (hs : l.ext.length ≤ 100000) (t0 : -9223372036854775808 ≤ t) (t1 : t ≤ 9223372036854775807) :
    Calls Tryz.prog 51 #[.agg #[.int .i64 l.id, .int .i64 l.unit, .string l.name, .string l.note, .slice A l.ext.length c], .int .i64 t] w fun e w' => e = .returned (.bool (validL l t)) ∧ Grew w w' :=
  rvalid_or A c l t w (fun ho a1 a2 a3 a4 a5 a6 a7 a8 => rvalid_yes A c l t w ho a1 a2 a3 a4 a5 a6 a7 a8 h hs t0 t1) h hs t0 t1
end
end Go.Proofs.YtnlaogneceanoaaGreat
namespace Go.Proofs.YtnlaogneceanoaaGreat
set_option linter.unusedVariables false
set_option linter.unusedSimpArgs false
set_option linter.unusedSectionVars false
open Go.RowKit
def hib (m : Nat) : UInt8 := UInt8.ofNat (m % 128 + 128)
def encF : Nat → Nat → List UInt8
  | 0, n => [UInt8.ofNat n]
  | k + 1, n => if n < 128 then [UInt8.ofNat n] else hib n :: encF k (n / 128)
def enc (n : Nat) : List UInt8 := encF 9 n
def bcell (b : UInt8) : Value := .int .u8 (b.toNat : Int)
def lim (k : Nat) : Nat := 128 ^ (10 - k)
theorem lim_succ (k : Nat) (h : k < 10) : lim k = 128 * lim (k + 1) := by
  unfold lim
  rw [show 10 - k = (10 - (k + 1)) + 1 from by omega, Nat.pow_succ, Nat.mul_comm]
theorem lim_0 : lim 0 = 1180591620717411303424 := by decide
theorem lim_9 : lim 9 = 128 := by decide
def AppInv (n k m : Nat) (pre : List UInt8) : Prop := pre.length = k ∧ m < lim k ∧ enc n = pre ++ encF (9 - k) m
theorem app_start (n : Nat) (h : n < 18446744073709551616) : AppInv n 0 n [] := ⟨rfl, by rw [lim_0]; omega, rfl⟩
theorem app_k (n k m : Nat) (pre : List UInt8) (h : AppInv n k m pre) (hk : k ≤ 9) (hm : 128 ≤ m) : k < 9 := by
  rcases Nat.lt_or_ge k 9 with h9 | h9
  · exact h9
  · have e : k = 9 := by omega
    subst e
    have := h.2.1
    rw [lim_9] at this
    omega
theorem app_step (n k m : Nat) (pre : List UInt8) (h : AppInv n k m pre) (hk : k < 9) (hm : 128 ≤ m) : AppInv n (k + 1) (m / 128) (pre ++ [hib m]) := by
  obtain ⟨h1, h2, h3⟩ := h
  refine ⟨by simp [h1], ?_, ?_⟩
  · rw [lim_succ k (by omega)] at h2
    omega
  · rw [h3, show 9 - k = (9 - (k + 1)) + 1 from by omega, encF, if_neg (by omega), List.append_assoc]
    rfl
theorem app_end (n k m : Nat) (pre : List UInt8) (h : AppInv n k m pre) (hm : m < 128) : enc n = pre ++ [UInt8.ofNat m] := by
  obtain ⟨h1, h2, h3⟩ := h
  rw [h3]
  cases 9 - k with
  | zero => rfl
  | succ j => rw [encF, if_pos hm]
def arr (pre : List UInt8) : Array Value := (pre.map bcell ++ List.replicate (10 - pre.length) (Value.int .u8 0)).toArray
theorem arr_size (pre : List UInt8) (h : pre.length ≤ 10) : (arr pre).size = 10 := by simp [arr]; omega
theorem arr_next (pre : List UInt8) (k : Nat) (hk : pre.length = k) (h : k < 10) : (arr pre)[k]? = some (.int .u8 0) := by
  subst hk
  rw [arr, List.getElem?_toArray, List.getElem?_append_right (by simp), List.getElem?_replicate, if_pos (by simp; omega)]
theorem arr_set (pre : List UInt8) (k : Nat) (hk : pre.length = k) (h : k < 10) (b : UInt8) : (arr pre).setIfInBounds k (bcell b) = arr (pre ++ [b]) := by
  subst hk
  simp only [arr, List.setIfInBounds_toArray, List.map_append, List.map_cons, List.map_nil, List.append_assoc, List.length_append, List.length_cons, List.length_nil]
  congr 1
  rw [List.set_append]
  simp
  rw [show 10 - pre.length = (9 - pre.length) + 1 from by omega, List.replicate_succ, List.set_cons_zero]
theorem arr_get (pre : List UInt8) (j : Nat) (hj : j < pre.length) : (arr pre)[j]? = some (bcell pre[j]) := by
  simp [arr, List.getElem?_append_left, hj]
theorem or128 (m : Nat) : bits BinOp.or IntKind.u8 ((m : Int) % 256) 128 = ((hib m).toNat : Int) := by
  have h : ∀ x : Fin 256, bits BinOp.or IntKind.u8 ((x.val : Nat) : Int) 128 = ((UInt8.ofNat (x.val % 128 + 128)).toNat : Int) := by decide +kernel
  have h1 := h ⟨m % 256, Nat.mod_lt _ (by omega)⟩
  simp only at h1
  rw [show (m : Int) % 256 = ((m % 256 : Nat) : Int) from by omega, h1, Nat.mod_mod_of_dvd _ (by decide)]; rfl
theorem conv_row {P : Program} (W : World) (src dst e : TypeId) (g cap n : Nat) (l : List UInt8) (cs : Array Value) (t : TypeId) (hs : P.underlying src = some (.slice e)) (he : P.underlying e = some (.int .u8)) (hd : P.underlying dst = some .string)
    (hn : n = l.length) (h : W.heap[g]? = some (.cells cs t (0, 0))) (hc : ∀ j (hj : j < l.length), cs[j]? = some (bcell l[j])) :
    (convert src dst (.slice (some ⟨g, 0, none⟩) n cap)).run P W = .ok (.string ⟨l.toArray⟩) W := by
  subst hn
  refine run_convert_bytes_back W src dst e ⟨g, 0, none⟩ cap l hs he hd ?_
  intro j hj
  have : (⟨g, 0, none⟩ : Addr).add j = ⟨g, j, none⟩ := by unfold Addr.add; split <;> simp_all
  rw [this, cell_of_row W g j cs t (0, 0) h, hc j hj]
  rfl
theorem slice10 (W : World) (a : Addr) (k : Nat) (hk : k ≤ 9) : (Instr.sliceAt 178 (.pointer (some a)) none (some (.int .i64 ((k : Int) + 1))) none).run Tryz.prog W = .ok (.slice (some a) (k + 1) 10) W := by
  have hal : Tryz.prog.arrayLen 178 = 10 := by kernel_rfl
  rw [run_sliceAt_array_h W 178 a (by kernel_rfl) .i64 ((k : Int) + 1) (by omega) (by rw [hal]; omega)]
  rw [hal]
  have hz : (sizeOf (Tryz.prog.elem 178)).run Tryz.prog W = .ok 1 W := by kernel_rfl
  rw [hz]
  simp only [Result.andThen, slicedAt]
  have e : ((k : Int) + 1).toNat = k + 1 := by omega
  rw [e]
  simp [Addr.add]
set_option maxRecDepth 100000 in
set_option maxHeartbeats 400000 in
theorem appendNumber_any (s : ByteArray) (n : Nat) (w : World) (hn : n < 18446744073709551616) (hs : s.size ≤ 1000000) :
    Calls Tryz.prog 134 #[.string s, .int .u64 n] w fun e w' => e = .returned (.string (s ++ ⟨(enc n).toArray⟩)) ∧ Grew w w' := by
  go_enter Tryz.func134, Tryz.ntmps134
  go_wp2
  go_loopw [1, 6] (fun a b wr => ∃ (k m : Nat) (pre : List UInt8), k ≤ 9 ∧ m < 18446744073709551616 ∧ a = .int .u64 m ∧ b = .int .i64 k ∧ wr = w.alloc (.cells (arr pre) 178) ∧ AppInv n k m pre) (fun _ b _ => 10 - (intOf b).toNat)
  case atStart => exact ⟨0, n, [], by omega, hn, rfl, rfl, rfl, app_start n hn⟩
  case round =>
    obtain ⟨k, m, pre, hk, hm, rfl, rfl, rfl, hinv⟩ := hrel
    have hsz := arr_size pre (by have := hinv.1; omega)
    have hcell := arr_next pre k hinv.1 (by omega)
    by_cases hlt : m < 128
    · have hend := app_end n k m pre hinv hlt
      have hlen : (enc n).length = k + 1 := by rw [hend]; simp [hinv.1]
      have hset : (arr pre).setIfInBounds k (.int .u8 m) = arr (enc n) := by
        rw [hend, ← arr_set pre k hinv.1 (by omega) (UInt8.ofNat m), bcell, UInt8.toNat_ofNat', Nat.mod_eq_of_lt (by omega)]
      have hconv : (convert 174 9 (.slice (some ⟨w.heap.size, 0, none⟩) (k + 1) 10)).run Tryz.prog (w.alloc (.cells (arr (enc n)) 178)) = .ok (.string ⟨(enc n).toArray⟩) (w.alloc (.cells (arr (enc n)) 178)) :=
        conv_row _ 174 9 5 _ 10 (k + 1) (enc n) (arr (enc n)) 178 Tryz.underlying174 Tryz.underlying5 Tryz.underlying9 hlen.symm (heap_alloc_new w _) (fun j hj => arr_get (enc n) j hj)
      have hel : (enc n).length ≤ 10 := by omega
      have hsl := fun W => slice10 W ⟨w.heap.size, 0, none⟩ k hk
      have hE := Lib.hid hend
      have hL := Lib.hid hlen
      clear hend hlen
      go_wp2
      go_ret
      exact ⟨rfl, by (repeat' first | (with_reducible exact Grew.refl _) | (with_reducible assumption) | (with_reducible refine Grew.alloc ?_ _) | (with_reducible refine Grew.drew ?_) | (with_reducible refine Grew.drewN ?_ _) | (with_reducible refine Grew.setRow ?_ (by first | (simp; done) | (simp; omega) | omega) _) | (with_reducible refine Grew.setCell ?_ (by first | (simp; done) | (simp; omega) | omega) _) | ((with_reducible apply Grew.trans); rotate_left; (with_reducible assumption)) | ((with_reducible apply Grew.turn); rotate_left; (with_reducible assumption); (focus (intro i hi; first | omega | (simp at hi; omega)))) | fail)⟩
    · have h9 := app_k n k m pre hinv hk (by omega)
      have hst : (arr pre).setIfInBounds k (.int .u8 (bits BinOp.or IntKind.u8 ((m : Int) % 256) 128)) = arr (pre ++ [hib m]) := by
        rw [← arr_set pre k hinv.1 (by omega), bcell, or128]
      go_wp2
      go_roundw
      case rel => exact ⟨k + 1, m / 128, _, by omega, by omega, by go_num, by go_num, rfl, app_step n k m pre hinv h9 (by omega)⟩
      case measure => simp [intOf]; omega
end Go.Proofs.YtnlaogneceanoaaGreat
namespace Go.Proofs.YtnlaogneceanoaaGreat
set_option linter.unusedVariables false
set_option linter.unusedSimpArgs false
set_option linter.unusedSectionVars false
open Go.RowKit
attribute [local go_sem ↓] Go.wp_at_zero Go.wp_at_succ
theorem conv1 (W : World) (a : Addr) (x : Int) (h : W.cell? a = some (.int .u8 x)) : (convert 174 9 (.slice (some a) 1 1)).run Tryz.prog W = .ok (.string ⟨#[UInt8.ofNat x.toNat]⟩) W := by
  rw [run_convert_bytes_string W 174 9 5 (some a) 1 1 Tryz.underlying174 Tryz.underlying5 Tryz.underlying9]
  have hl := run_loadCells_list (P := Tryz.prog) W a [.int .u8 x] (fun j v hj => by
    cases j with
    | zero => simp at hj; subst hj; simpa [Addr.add] using h
    | succ j => simp at hj)
  rw [run_bytesToString W a 1 1 [x] (by simpa using hl)]
  rfl
set_option maxRecDepth 100000 in
set_option maxHeartbeats 400000 in
theorem number_lo (n : Nat) (w : World) (hn : n < 128) :
    Calls Tryz.prog 138 #[.int .u64 n] w fun e w' => e = .returned (.string ⟨#[UInt8.ofNat n]⟩) ∧ Grew w w' := by
  have hc := conv1
  go_enter Tryz.func138, Tryz.ntmps138
  go_wp2
  go_ret
  exact ⟨rfl, by (repeat' first | (with_reducible exact Grew.refl _) | (with_reducible assumption) | (with_reducible refine Grew.alloc ?_ _) | (with_reducible refine Grew.drew ?_) | (with_reducible refine Grew.drewN ?_ _) | (with_reducible refine Grew.setRow ?_ (by first | (simp; done) | (simp; omega) | omega) _) | (with_reducible refine Grew.setCell ?_ (by first | (simp; done) | (simp; omega) | omega) _) | ((with_reducible apply Grew.trans); rotate_left; (with_reducible assumption)) | ((with_reducible apply Grew.turn); rotate_left; (with_reducible assumption); (focus (intro i hi; first | omega | (simp at hi; omega)))) | fail)⟩
theorem hib_wrap (n : Nat) : IntKind.u8.wrap (IntKind.u64.wrap ((n : Int).tmod 128 + 128)) = ((hib n).toNat : Int) := by
  rw [Int.tmod_eq_emod_of_nonneg (by omega), IntKind.wrap_u64, IntKind.wrap_u8, hib, UInt8.toNat_ofNat']
  omega
theorem div_wrap (n : Nat) (h : n < 18446744073709551616) : IntKind.u64.wrap ((n : Int) / 128) = ((n / 128 : Nat) : Int) := by
  rw [IntKind.wrap_u64]; omega
theorem encF_len (k : Nat) : ∀ n, (encF k n).length ≤ k + 1 := by
  induction k with
  | zero => intro n; simp [encF]
  | succ k ih => intro n; rw [encF]; split
                 · simp
                 · have := ih (n / 128); simp; omega
set_option maxRecDepth 100000 in
set_option maxHeartbeats 400000 in
theorem number_any (k : Nat) : ∀ (n : Nat) (w : World), k ≤ 100 → n < 128 ^ (k + 1) → n < 18446744073709551616 →
    Calls Tryz.prog 138 #[.int .u64 n] w fun e w' => e = .returned (.string ⟨(encF k n).toArray⟩) ∧ Grew w w' := by
  induction k with
  | zero => exact fun n w _ h _ => number_lo n w h
  | succ k ih =>
    intro n w hk1 hk hn
    by_cases hlt : n < 128
    · rw [encF, if_pos hlt]
      exact number_lo n w hlt
    · rw [encF, if_neg hlt]
      go_enter Tryz.func138, Tryz.ntmps138
      go_wp2_with fail
      have H := fun (W : World) => ih (n / 128) W (by omega) (by rw [Nat.pow_succ] at hk; omega) (by omega)
      have IH := Lib.hid H
      clear H ih
      have hc := conv1
      have hl := encF_len k (n / 128)
      have e1 := hib_wrap n
      have e2 := div_wrap n hn
      go_region_with ((go_at_call 138; refine (IH.out _).mono ?_; rintro e w' ⟨rfl, hb⟩; have hcc := hb.cellEq))
      all_goals (go_wp2; go_ret; exact ⟨rfl, by (repeat' first | (with_reducible exact Grew.refl _) | (with_reducible assumption) | (with_reducible refine Grew.alloc ?_ _) | (with_reducible refine Grew.drew ?_) | (with_reducible refine Grew.drewN ?_ _) | (with_reducible refine Grew.setRow ?_ (by first | (simp; done) | (simp; omega) | omega) _) | (with_reducible refine Grew.setCell ?_ (by first | (simp; done) | (simp; omega) | omega) _) | ((with_reducible apply Grew.trans); rotate_left; (with_reducible assumption)) | ((with_reducible apply Grew.turn); rotate_left; (with_reducible assumption); (focus (intro i hi; first | omega | (simp at hi; omega)))) | fail)⟩)
theorem number_enc (n : Nat) (w : World) (h : n < 18446744073709551616) :
    Calls Tryz.prog 138 #[.int .u64 n] w fun e w' => e = .returned (.string ⟨(enc n).toArray⟩) ∧ Grew w w' :=
  number_any 9 n w (by omega) (by have : (128 : Nat) ^ (9 + 1) = 1180591620717411303424 := by decide
                                  omega) h
end Go.Proofs.YtnlaogneceanoaaGreat
namespace Go.Proofs.YtnlaogneceanoaaGreat
set_option linter.unusedVariables false
set_option linter.unusedSimpArgs false
set_option linter.unusedSectionVars false
open Go.RowKit
set_option maxRecDepth 100000 in
set_option maxHeartbeats 400000 in
theorem appendText_any (s t : ByteArray) (w : World) (hs : s.size ≤ 1000000) (ht : t.size ≤ 1000000) :
    Calls Tryz.prog 135 #[.string s, .string t] w fun e w' => e = .returned (.string (s ++ ⟨(enc t.size).toArray⟩ ++ t)) ∧ Grew w w' := by
  have hl := encF_len 9 t.size
  have hl' : (enc t.size).length ≤ 10 := hl
  clear hl
  go_enter Tryz.func135, Tryz.ntmps135
  go_wp2_with fail
  refine (appendNumber_any s t.size w (by omega) hs).mono ?_
  rintro e w' ⟨rfl, hg⟩
  go_wp2_with fail
  go_ret
  exact ⟨rfl, by (repeat' first | (with_reducible exact Grew.refl _) | (with_reducible assumption) | (with_reducible refine Grew.alloc ?_ _) | (with_reducible refine Grew.drew ?_) | (with_reducible refine Grew.drewN ?_ _) | (with_reducible refine Grew.setRow ?_ (by first | (simp; done) | (simp; omega) | omega) _) | (with_reducible refine Grew.setCell ?_ (by first | (simp; done) | (simp; omega) | omega) _) | ((with_reducible apply Grew.trans); rotate_left; (with_reducible assumption)) | ((with_reducible apply Grew.turn); rotate_left; (with_reducible assumption); (focus (intro i hi; first | omega | (simp at hi; omega)))) | fail)⟩
set_option maxRecDepth 100000 in
set_option maxHeartbeats 400000 in
theorem refText_any (t : ByteArray) (w : World) (ht : t.size ≤ 1000000) :
    Calls Tryz.prog 137 #[.string t] w fun e w' => e = .returned (.string (⟨(enc t.size).toArray⟩ ++ t)) ∧ Grew w w' := by
  have hl := encF_len 9 t.size
  have hl' : (enc t.size).length ≤ 10 := hl
  clear hl
  go_enter Tryz.func137, Tryz.ntmps137
  go_wp2_with fail
  refine (number_enc t.size w (by omega)).mono ?_
  rintro e w' ⟨rfl, hg⟩
  go_wp2_with fail
  go_ret
  exact ⟨rfl, by (repeat' first | (with_reducible exact Grew.refl _) | (with_reducible assumption) | (with_reducible refine Grew.alloc ?_ _) | (with_reducible refine Grew.drew ?_) | (with_reducible refine Grew.drewN ?_ _) | (with_reducible refine Grew.setRow ?_ (by first | (simp; done) | (simp; omega) | omega) _) | (with_reducible refine Grew.setCell ?_ (by first | (simp; done) | (simp; omega) | omega) _) | ((with_reducible apply Grew.trans); rotate_left; (with_reducible assumption)) | ((with_reducible apply Grew.turn); rotate_left; (with_reducible assumption); (focus (intro i hi; first | omega | (simp at hi; omega)))) | fail)⟩
end Go.Proofs.YtnlaogneceanoaaGreat
namespace Go.Proofs.YtnlaogneceanoaaGreat
set_option linter.unusedVariables false
set_option linter.unusedSimpArgs false
set_option linter.unusedSectionVars false
open Go.RowKit
def decF : Nat → Nat → List UInt8 → Nat × Nat
  | _, _, [] => (0, 0)
  | i, acc, b :: l =>
    if 10 ≤ i then (0, 0) else if i = 9 ∧ 1 < b.toNat then (0, 0)
    else if b.toNat < 128 then (if b.toNat = 0 ∧ 0 < i then (0, 0) else (acc + b.toNat % 128 * 128 ^ i, i + 1))
    else decF (i + 1) (acc + b.toNat % 128 * 128 ^ i) l
def dec (l : List UInt8) : Nat × Nat := decF 0 0 l
def decV (l : List UInt8) : Nat := (dec l).1
def decN (l : List UInt8) : Nat := (dec l).2
theorem and127 (b : UInt8) : bits BinOp.and IntKind.u8 (b.toNat : Int) 127 = ((b.toNat % 128 : Nat) : Int) := by
  have h : ∀ x : Fin 256, bits BinOp.and IntKind.u8 ((x.val : Nat) : Int) 127 = ((x.val % 128 : Nat) : Int) := by decide +kernel
  exact h ⟨b.toNat, b.toNat_lt⟩
theorem two7 (k : Nat) : 2 ^ (7 * k) = 128 ^ k := by rw [Nat.pow_mul]
theorem or_disj (m c k : Nat) (hm : m < 2 ^ k) (hc : c * 2 ^ k + m < 18446744073709551616) : bits .or .u64 (m : Int) ((c * 2 ^ k : Nat) : Int) = ((m + c * 2 ^ k : Nat) : Int) := by
  have e : m ||| c * 2 ^ k = m + c * 2 ^ k := by
    rw [Nat.or_comm, Nat.mul_comm, ← Nat.two_pow_add_eq_or_of_lt hm, Nat.add_comm]
  show IntKind.u64.wrap ((BitVec.ofInt 64 (m : Int) ||| BitVec.ofInt 64 ((c * 2 ^ k : Nat) : Int)).toNat : Int) = _
  rw [BitVec.ofInt_natCast, BitVec.ofInt_natCast, BitVec.toNat_or, BitVec.toNat_ofNat, BitVec.toNat_ofNat, Nat.mod_eq_of_lt (by omega), Nat.mod_eq_of_lt (by omega), e, IntKind.wrap_u64]
  omega
theorem cast_mul_pow (c k : Nat) : ((c : Nat) : Int) * 2 ^ k = ((c * 2 ^ k : Nat) : Int) := by
  rw [Int.natCast_mul, Int.natCast_pow]; rfl
theorem orval (m k : Nat) (b : UInt8) (hm : m < 128 ^ k) (hc : b.toNat % 128 * 128 ^ k + m < 18446744073709551616) :
    bits .or .u64 (m : Int) (IntKind.u64.wrap (IntKind.u64.wrap (bits BinOp.and IntKind.u8 (b.toNat : Int) 127) * 2 ^ (7 * k))) = ((m + b.toNat % 128 * 128 ^ k : Nat) : Int) := by
  rw [and127, show IntKind.u64.wrap ((b.toNat % 128 : Nat) : Int) = ((b.toNat % 128 : Nat) : Int) from by rw [IntKind.wrap_u64]; omega, cast_mul_pow]
  rw [← two7] at hm hc ⊢
  rw [show IntKind.u64.wrap ((b.toNat % 128 * 2 ^ (7 * k) : Nat) : Int) = ((b.toNat % 128 * 2 ^ (7 * k) : Nat) : Int) from by rw [IntKind.wrap_u64]; omega]
  exact or_disj m _ _ hm hc
theorem pow128_8 : (128 : Nat) ^ 8 = 72057594037927936 := by decide
theorem pow128_9 : (128 : Nat) ^ 9 = 9223372036854775808 := by decide
theorem orval_lo (m k : Nat) (b : UInt8) (hk : k ≤ 8) (hm : m < 128 ^ k) :
    b.toNat % 128 * 128 ^ k + m < 18446744073709551616 ∧ m + b.toNat % 128 * 128 ^ k < 128 ^ (k + 1) := by
  have hp : (128 : Nat) ^ k ≤ 128 ^ 8 := Nat.pow_le_pow_right (by omega) hk
  rw [pow128_8] at hp
  have h1 : b.toNat % 128 ≤ 127 := by omega
  have h2 := Nat.mul_le_mul_right (128 ^ k) h1
  rw [Nat.pow_succ]
  omega
theorem ret_pair {k j : IntKind} {a b c d : Int} (h : a = b) (h' : c = d) : Ending.returned (.tuple #[.int k a, .int j c]) = .returned (.tuple #[.int k b, .int j d]) := by rw [h, h']
theorem drop_at (s : ByteArray) (k : Nat) (h : k < s.size) : s.data.toList.drop k = s[k] :: s.data.toList.drop (k + 1) := by
  rw [List.drop_eq_getElem_cons (by simpa using h)]; rfl
theorem decF_ten (m : Nat) (l : List UInt8) : decF 10 m l = (0, 0) := by cases l <;> simp [decF]
set_option maxRecDepth 100000 in
set_option maxHeartbeats 1000000 in
theorem decode_any (s : ByteArray) (w : World) (hs : s.size ≤ 9223372036854775807) :
    Calls Tryz.prog 183 #[.string s] w fun e w' => e = .returned (.tuple #[.int .u64 (decV s.data.toList), .int .i64 (decN s.data.toList)]) ∧ w = w' := by
  go_enter Tryz.func183, Tryz.ntmps183
  go_wp2
  go_loop [4, 5] (fun a b => ∃ (k m : Nat), k ≤ s.size ∧ k ≤ 10 ∧ (k ≤ 9 → m < 128 ^ k) ∧ a = .int .u64 m ∧ b = .int .i64 k ∧ dec s.data.toList = decF k m (s.data.toList.drop k)) (fun _ b => 10 - (intOf b).toNat)
  case atStart => exact ⟨0, 0, by omega, by omega, by simp, rfl, rfl, rfl⟩
  case round =>
    obtain ⟨k, m, hk, hk10, hm, rfl, rfl, hdec⟩ := hrel
    by_cases hlt : k < s.size ∧ k < 10
    · obtain ⟨hl1, hl2⟩ := hlt
      have hbl := (s[k]).toNat_lt
      rw [drop_at s k hl1] at hdec
      replace hm := hm (by omega)
      have HD := Lib.hid hdec
      clear hdec
      by_cases h9 : k = 9
      · subst h9
        by_cases hb : 1 < s[9].toNat
        · go_wp2
          go_ret2
          exact ⟨ret_pair (by rw [decV, HD.out]; simp [decF, hb]) (by rw [decN, HD.out]; simp [decF, hb]), rfl⟩
        · rw [pow128_9] at hm
          have hv := orval m 9 s[9] (by rw [pow128_9]; exact hm) (by rw [pow128_9]; omega)
          rw [show (2 : Int) ^ (7 * 9) = 9223372036854775808 from rfl] at hv
          have hlt : s[9].toNat < 128 := by omega
          by_cases h0 : s[9].toNat = 0
          · have H0 := Lib.hid h0
            have h0' : s[9].toNat ≤ 0 := by omega
            clear h0
            go_wp2
            go_ret2
            exact ⟨ret_pair (by rw [decV, HD.out]; simp [decF, H0.out]) (by rw [decN, HD.out]; simp [decF, H0.out]), rfl⟩
          · go_wp2
            go_ret2
            exact ⟨ret_pair (by rw [decV, HD.out]; simp [decF, hb, hlt, h0]) (by rw [decN, HD.out]; simp [decF, hb, hlt, h0]), rfl⟩
      · have hk8 : k ≤ 8 := by omega
        have hlo := orval_lo m k s[k] hk8 hm
        have hv := orval m k s[k] hm hlo.1
        have HL := Lib.hid hlo.2
        have HM := Lib.hid hm
        clear hm hlo
        by_cases hlt : s[k].toNat < 128
        · by_cases h0 : s[k].toNat = 0
          · have H0 := Lib.hid h0
            have h0' : s[k].toNat ≤ 0 := by omega
            clear h0
            have hv0 : bits BinOp.or IntKind.u64 (↑m) (IntKind.u64.wrap (IntKind.u64.wrap (bits BinOp.and IntKind.u8 0 127) * 2 ^ (7 * k))) = (m : Int) := by
              rw [H0.out] at hv
              simpa using hv
            by_cases hk0 : k = 0
            · subst hk0
              rw [Nat.mul_zero, Int.pow_zero, Int.mul_one] at hv0
              go_wp2
              go_ret2
              exact ⟨ret_pair (by rw [decV, HD.out]; simp [decF, H0.out]) (by rw [decN, HD.out]; simp [decF, H0.out]), rfl⟩
            · go_wp2
              go_ret2
              exact ⟨ret_pair (by rw [decV, HD.out]; simp [decF, H0.out, h9, show ¬ 10 ≤ k from by omega, show 0 < k from by omega]) (by rw [decN, HD.out]; simp [decF, H0.out, h9, show ¬ 10 ≤ k from by omega, show 0 < k from by omega]), rfl⟩
          · go_wp2
            go_ret2
            exact ⟨ret_pair (by rw [decV, HD.out]; simp [decF, h9, hlt, h0, show ¬ 10 ≤ k from by omega]) (by rw [decN, HD.out]; simp [decF, h9, hlt, h0, show ¬ 10 ≤ k from by omega]), rfl⟩
        · go_wp2
          go_round
          case rel => exact ⟨k + 1, m + s[k].toNat % 128 * 128 ^ k, by omega, by omega, fun _ => HL.out, rfl, by go_num, by rw [HD.out]; simp [decF, h9, hlt, show ¬ 10 ≤ k from by omega]⟩
          case measure => simp [intOf]; omega
    · have hfin : decF k m (s.data.toList.drop k) = (0, 0) := by
        by_cases h10 : k = 10
        · rw [h10]; exact decF_ten _ _
        · rw [List.drop_eq_nil_of_le (by simp; omega)]; rfl
      rw [hfin] at hdec
      have HD := Lib.hid hdec
      clear hdec hfin
      by_cases hl1 : k < s.size
      · have hl2 : ¬ k < 10 := fun h => hlt ⟨hl1, h⟩
        clear hlt hm
        go_wp2
        go_ret2
        exact ⟨ret_pair (by rw [decV, HD.out]; rfl) (by rw [decN, HD.out]; rfl), rfl⟩
      · clear hlt hm
        go_wp2
        go_ret2
        exact ⟨ret_pair (by rw [decV, HD.out]; rfl) (by rw [decN, HD.out]; rfl), rfl⟩
end Go.Proofs.YtnlaogneceanoaaGreat
namespace Go.Proofs.YtnlaogneceanoaaGreat
set_option linter.unusedVariables false
set_option linter.unusedSimpArgs false
set_option linter.unusedSectionVars false
open Go.RowKit
/-- A reader in memory. -/
def Rd (w : World) (g : Nat) (s : ByteArray) (err : Int) : Prop := Blk w g 171 #[.string s, .int .i64 err]
theorem Rd.facts {w : World} {g : Nat} {s : ByteArray} {err : Int} (h : Rd w g s err) : g < w.heap.size ∧ w.cell? ⟨g, 0, none⟩ = some (.string s) ∧ w.cell? ⟨g, 1, none⟩ = some (.int .i64 err) ∧ w.frozen? ⟨g, 0, none⟩ = false ∧ w.frozen? ⟨g, 1, none⟩ = false :=
  ⟨h.lt, h.cell 0, h.cell 1, h.frozen 0, h.frozen 1⟩
def RNum (s : ByteArray) (err : Int) : Nat × ByteArray × Int :=
  if err ≠ 0 then (0, s, err) else if decN s.data.toList = 0 then (0, ⟨#[]⟩, 11) else (decV s.data.toList, s.extract (decN s.data.toList) s.size, 0)
theorem decF_le (l : List UInt8) : ∀ i acc, (decF i acc l).2 ≤ i + l.length := by
  induction l with
  | nil => intro i acc; simp [decF]
  | cons b l ih =>
    intro i acc
    have := ih (i + 1) (acc + b.toNat % 128 * 128 ^ i)
    rw [decF, List.length_cons]
    repeat' split
    all_goals first | exact Nat.zero_le _ | omega
theorem decN_le (s : ByteArray) : decN s.data.toList ≤ s.size := by
  have := decF_le s.data.toList 0 0
  rw [Nat.zero_add, Array.length_toList] at this
  exact this
theorem decV_zero (l : List UInt8) (h : decN l = 0) : decV l = 0 := by
  have key : ∀ (l : List UInt8) i acc, (decF i acc l).2 = 0 → (decF i acc l).1 = 0 := by
    intro l
    induction l with
    | nil => intro i acc _; rfl
    | cons b l ih =>
      intro i acc
      have := ih (i + 1) (acc + b.toNat % 128 * 128 ^ i)
      rw [decF]
      repeat' split
      all_goals first | (intro _; rfl) | (intro hh; exact absurd hh (by omega)) | exact this
  exact key l 0 0 h
set_option maxRecDepth 100000 in
set_option maxHeartbeats 1000000 in
theorem rnumber_any (g : Nat) (s : ByteArray) (err : Int) (w : World) (h : Rd w g s err) (hs : s.size ≤ 9223372036854775807) :
    Calls Tryz.prog 167 #[.pointer (some ⟨g, 0, none⟩)] w fun e w' => e = .returned (.int .u64 (RNum s err).1) ∧ Turned (· = g) w w' ∧ Rd w' g (RNum s err).2.1 (RNum s err).2.2 := by
  unfold RNum
  obtain ⟨hl, c0, c1, f0, f1⟩ := h.facts
  by_cases he : err ≠ 0
  · rw [if_pos he]
    go_enter Tryz.func167, Tryz.ntmps167
    go_wp2
    go_ret
    exact ⟨rfl, by (repeat' first | (with_reducible exact Turned.refl _ _) | (with_reducible assumption) | (with_reducible refine Turned.alloc ?_ _) | (with_reducible refine Turned.drew ?_) | (with_reducible refine Turned.drewN ?_ _) | (with_reducible refine Turned.setRow ?_ (by first | (simp; done) | (simp; omega) | omega) _) | (with_reducible refine Turned.setCell ?_ (by first | (simp; done) | (simp; omega) | omega) _) | ((with_reducible apply Turned.andGrew); rotate_left; (with_reducible assumption)) | ((with_reducible apply Turned.trans); rotate_left; (with_reducible assumption)) | fail), by unfold Rd at h ⊢; (apply Blk.conv; (· (repeat' first | (with_reducible assumption) | (with_reducible apply Blk.setRow) | ((with_reducible apply Blk.farRow); rotate_left; (focus (first | (simp; done) | (simp; omega) | omega))) | (with_reducible apply Blk.drew) | (with_reducible apply Blk.drewN) | (with_reducible apply Blk.set_) | (with_reducible exact Blk.new _ _ _ (by first | rfl | (simp; done) | (simp; omega))) | (with_reducible apply Blk.alloc) | ((with_reducible apply Blk.far); rotate_left; (focus (first | (simp; done) | (simp; omega) | omega))) | ((with_reducible apply Blk.grew); rotate_left; (with_reducible assumption)) | ((with_reducible apply Blk.turned); rotate_left; (with_reducible assumption); (focus (first | (simp; done) | (simp; omega) | omega))) | fail)); (· rfl))⟩
  · rw [if_neg he]
    obtain rfl : err = 0 := by omega
    by_cases hd : decN s.data.toList = 0
    · rw [if_pos hd]
      have hz := decV_zero _ hd
      go_enter Tryz.func167, Tryz.ntmps167
      go_wp2_with (first | (go_at_call 183; refine (decode_any s _ hs).mono ?_; rintro e w' ⟨rfl, rfl⟩) | go_in)
      go_ret
      exact ⟨rfl, by (repeat' first | (with_reducible exact Turned.refl _ _) | (with_reducible assumption) | (with_reducible refine Turned.alloc ?_ _) | (with_reducible refine Turned.drew ?_) | (with_reducible refine Turned.drewN ?_ _) | (with_reducible refine Turned.setRow ?_ (by first | (simp; done) | (simp; omega) | omega) _) | (with_reducible refine Turned.setCell ?_ (by first | (simp; done) | (simp; omega) | omega) _) | ((with_reducible apply Turned.andGrew); rotate_left; (with_reducible assumption)) | ((with_reducible apply Turned.trans); rotate_left; (with_reducible assumption)) | fail), by unfold Rd at h ⊢; (apply Blk.conv; (· (repeat' first | (with_reducible assumption) | (with_reducible apply Blk.setRow) | ((with_reducible apply Blk.farRow); rotate_left; (focus (first | (simp; done) | (simp; omega) | omega))) | (with_reducible apply Blk.drew) | (with_reducible apply Blk.drewN) | (with_reducible apply Blk.set_) | (with_reducible exact Blk.new _ _ _ (by first | rfl | (simp; done) | (simp; omega))) | (with_reducible apply Blk.alloc) | ((with_reducible apply Blk.far); rotate_left; (focus (first | (simp; done) | (simp; omega) | omega))) | ((with_reducible apply Blk.grew); rotate_left; (with_reducible assumption)) | ((with_reducible apply Blk.turned); rotate_left; (with_reducible assumption); (focus (first | (simp; done) | (simp; omega) | omega))) | fail)); (· rfl))⟩
    · rw [if_neg hd]
      have hle := decN_le s
      have hd' : 0 < decN s.data.toList := by omega
      go_enter Tryz.func167, Tryz.ntmps167
      go_wp2_with (first | (go_at_call 183; refine (decode_any s _ hs).mono ?_; rintro e w' ⟨rfl, rfl⟩) | go_in)
      go_ret
      exact ⟨rfl, by (repeat' first | (with_reducible exact Turned.refl _ _) | (with_reducible assumption) | (with_reducible refine Turned.alloc ?_ _) | (with_reducible refine Turned.drew ?_) | (with_reducible refine Turned.drewN ?_ _) | (with_reducible refine Turned.setRow ?_ (by first | (simp; done) | (simp; omega) | omega) _) | (with_reducible refine Turned.setCell ?_ (by first | (simp; done) | (simp; omega) | omega) _) | ((with_reducible apply Turned.andGrew); rotate_left; (with_reducible assumption)) | ((with_reducible apply Turned.trans); rotate_left; (with_reducible assumption)) | fail), by unfold Rd at h ⊢; (apply Blk.conv; (· (repeat' first | (with_reducible assumption) | (with_reducible apply Blk.setRow) | ((with_reducible apply Blk.farRow); rotate_left; (focus (first | (simp; done) | (simp; omega) | omega))) | (with_reducible apply Blk.drew) | (with_reducible apply Blk.drewN) | (with_reducible apply Blk.set_) | (with_reducible exact Blk.new _ _ _ (by first | rfl | (simp; done) | (simp; omega))) | (with_reducible apply Blk.alloc) | ((with_reducible apply Blk.far); rotate_left; (focus (first | (simp; done) | (simp; omega) | omega))) | ((with_reducible apply Blk.grew); rotate_left; (with_reducible assumption)) | ((with_reducible apply Blk.turned); rotate_left; (with_reducible assumption); (focus (first | (simp; done) | (simp; omega) | omega))) | fail)); (· rfl))⟩
theorem RNum_size (s : ByteArray) (err : Int) : (RNum s err).2.1.size ≤ s.size := by
  unfold RNum
  repeat' split
  · exact Nat.le_refl _
  · exact Nat.zero_le _
  · rw [ByteArray.size_extract]; omega
def RCnt (s : ByteArray) (err most : Int) : Nat × ByteArray × Int :=
  if (RNum s err).2.2 ≠ 0 then (0, (RNum s err).2.1, (RNum s err).2.2)
  else if most < 0 ∨ most < ((RNum s err).1 : Int) then (0, ⟨#[]⟩, 8) else RNum s err
def RTxt (s : ByteArray) (err most : Int) : ByteArray × ByteArray × Int :=
  if (RCnt s err most).2.2 ≠ 0 then (⟨#[]⟩, (RCnt s err most).2.1, (RCnt s err most).2.2)
  else if (RCnt s err most).2.1.size < (RCnt s err most).1 then (⟨#[]⟩, ⟨#[]⟩, 11)
  else ((RCnt s err most).2.1.extract 0 (RCnt s err most).1, (RCnt s err most).2.1.extract (RCnt s err most).1 (RCnt s err most).2.1.size, 0)
set_option maxRecDepth 100000 in
set_option maxHeartbeats 1000000 in
theorem rfail_any (g : Nat) (s : ByteArray) (k : Int) (w : World) (h : Rd w g s 0) :
    Calls Tryz.prog 166 #[.pointer (some ⟨g, 0, none⟩), .int .i64 k] w fun e w' => e = .returned (.tuple #[]) ∧ Turned (· = g) w w' ∧ Rd w' g ⟨#[]⟩ k := by
  obtain ⟨hl, c0, c1, f0, f1⟩ := h.facts
  go_enter Tryz.func166, Tryz.ntmps166
  go_wp2
  go_end0
  exact ⟨rfl, by (repeat' first | (with_reducible exact Turned.refl _ _) | (with_reducible assumption) | (with_reducible refine Turned.alloc ?_ _) | (with_reducible refine Turned.drew ?_) | (with_reducible refine Turned.drewN ?_ _) | (with_reducible refine Turned.setRow ?_ (by first | (simp; done) | (simp; omega) | omega) _) | (with_reducible refine Turned.setCell ?_ (by first | (simp; done) | (simp; omega) | omega) _) | ((with_reducible apply Turned.andGrew); rotate_left; (with_reducible assumption)) | ((with_reducible apply Turned.trans); rotate_left; (with_reducible assumption)) | fail), by unfold Rd at h ⊢; (apply Blk.conv; (· (repeat' first | (with_reducible assumption) | (with_reducible apply Blk.setRow) | ((with_reducible apply Blk.farRow); rotate_left; (focus (first | (simp; done) | (simp; omega) | omega))) | (with_reducible apply Blk.drew) | (with_reducible apply Blk.drewN) | (with_reducible apply Blk.set_) | (with_reducible exact Blk.new _ _ _ (by first | rfl | (simp; done) | (simp; omega))) | (with_reducible apply Blk.alloc) | ((with_reducible apply Blk.far); rotate_left; (focus (first | (simp; done) | (simp; omega) | omega))) | ((with_reducible apply Blk.grew); rotate_left; (with_reducible assumption)) | ((with_reducible apply Blk.turned); rotate_left; (with_reducible assumption); (focus (first | (simp; done) | (simp; omega) | omega))) | fail)); (· rfl))⟩
set_option maxRecDepth 100000 in
set_option maxHeartbeats 1000000 in
theorem newReader_any (s : ByteArray) (w : World) :
    Calls Tryz.prog 127 #[.string s] w fun e w' => ∃ g, e = .returned (.pointer (some ⟨g, 0, none⟩)) ∧ w.heap.size ≤ g ∧ Grew w w' ∧ Rd w' g s 0 := by
  go_enter Tryz.func127, Tryz.ntmps127
  go_wp2
  go_ret
  exact ⟨_, rfl, Nat.le_refl _, by (repeat' first | (with_reducible exact Grew.refl _) | (with_reducible assumption) | (with_reducible refine Grew.alloc ?_ _) | (with_reducible refine Grew.drew ?_) | (with_reducible refine Grew.drewN ?_ _) | (with_reducible refine Grew.setRow ?_ (by first | (simp; done) | (simp; omega) | omega) _) | (with_reducible refine Grew.setCell ?_ (by first | (simp; done) | (simp; omega) | omega) _) | ((with_reducible apply Grew.trans); rotate_left; (with_reducible assumption)) | ((with_reducible apply Grew.turn); rotate_left; (with_reducible assumption); (focus (intro i hi; first | omega | (simp at hi; omega)))) | fail), by unfold Rd; (apply Blk.conv; (· (repeat' first | (with_reducible assumption) | (with_reducible apply Blk.setRow) | ((with_reducible apply Blk.farRow); rotate_left; (focus (first | (simp; done) | (simp; omega) | omega))) | (with_reducible apply Blk.drew) | (with_reducible apply Blk.drewN) | (with_reducible apply Blk.set_) | (with_reducible exact Blk.new _ _ _ (by first | rfl | (simp; done) | (simp; omega))) | (with_reducible apply Blk.alloc) | ((with_reducible apply Blk.far); rotate_left; (focus (first | (simp; done) | (simp; omega) | omega))) | ((with_reducible apply Blk.grew); rotate_left; (with_reducible assumption)) | ((with_reducible apply Blk.turned); rotate_left; (with_reducible assumption); (focus (first | (simp; done) | (simp; omega) | omega))) | fail)); (· rfl))⟩
end Go.Proofs.YtnlaogneceanoaaGreat
namespace Go.Proofs.YtnlaogneceanoaaGreat
set_option linter.unusedVariables false
set_option linter.unusedSimpArgs false
set_option linter.unusedSectionVars false
open Go.RowKit
theorem decF_acc (l : List UInt8) : ∀ i acc, i ≤ 9 → acc < 128 ^ i → (decF i acc l).1 < 18446744073709551616 := by
  induction l with
  | nil => intro i acc _ _; simp [decF]
  | cons b l ih =>
    intro i acc hi ha
    have hb := b.toNat_lt
    by_cases h9 : i = 9
    · subst h9
      rw [pow128_9] at ha
      rw [decF, if_neg (by omega)]
      split
      · simp
      · rename_i h
        split
        · split
          · simp
          · rw [pow128_9]
            have h1 : b.toNat ≤ 1 := by omega
            show acc + b.toNat % 128 * 9223372036854775808 < _
            have : b.toNat % 128 ≤ 1 := by omega
            omega
        · rw [decF_ten]; simp
    · have hlo := orval_lo acc i b (by omega) ha
      rw [decF, if_neg (by omega), if_neg (by omega)]
      split
      · split
        · simp
        · show acc + _ < _
          omega
      · exact ih (i + 1) _ (by omega) hlo.2
theorem decV_lt (l : List UInt8) : decV l < 18446744073709551616 := decF_acc l 0 0 (by omega) (by simp)
theorem RNum_lt (s : ByteArray) (err : Int) : (RNum s err).1 < 18446744073709551616 := by
  unfold RNum
  repeat' split
  · show 0 < _; omega
  · show 0 < _; omega
  · exact decV_lt _
theorem RNum_zero (s : ByteArray) (err : Int) (h : (RNum s err).2.2 ≠ 0) : (RNum s err).1 = 0 := by
  unfold RNum at h ⊢
  by_cases h1 : err ≠ 0
  · rw [if_pos h1]
  · rw [if_neg h1] at h ⊢
    split
    · rfl
    · rename_i h2
      rw [if_neg h2] at h
      exact absurd rfl h
set_option maxRecDepth 100000 in
set_option maxHeartbeats 1000000 in
theorem rcount_any (g : Nat) (s : ByteArray) (err most : Int) (w : World) (h : Rd w g s err) (hs : s.size ≤ 9223372036854775807) (hm0 : -9223372036854775808 ≤ most) (hm1 : most ≤ 9223372036854775807) :
    Calls Tryz.prog 129 #[.pointer (some ⟨g, 0, none⟩), .int .i64 most] w fun e w' => e = .returned (.int .i64 (RCnt s err most).1) ∧ Turned (· = g) w w' ∧ Rd w' g (RCnt s err most).2.1 (RCnt s err most).2.2 := by
  have hlt := RNum_lt s err
  unfold RCnt
  by_cases he : (RNum s err).2.2 ≠ 0
  · rw [if_pos he]
    go_enter Tryz.func129, Tryz.ntmps129
    go_wp2_with fail
    refine (rnumber_any g s err w h hs).mono ?_
    rintro e w1 ⟨rfl, ht, hr⟩
    obtain ⟨hl, c0, c1, f0, f1⟩ := hr.facts
    go_wp2_with fail
    go_ret
    exact ⟨rfl, ht, hr⟩
  · rw [if_neg he]
    have he0 : (RNum s err).2.2 = 0 := by omega
    have HE := Lib.hid he0
    clear he0 he
    by_cases hc : most < 0 ∨ most < ((RNum s err).1 : Int)
    · rw [if_pos hc]
      by_cases hc1 : most < 0
      · clear hc
        go_enter Tryz.func129, Tryz.ntmps129
        go_wp2_with fail
        refine (rnumber_any g s err w h hs).mono ?_
        rintro e w1 ⟨rfl, ht, hr⟩
        rw [HE.out] at hr
        obtain ⟨hl, c0, c1, f0, f1⟩ := hr.facts
        go_wp2_with fail
        refine (rfail_any g _ 8 w1 hr).mono ?_
        rintro e w2 ⟨rfl, ht2, hr2⟩
        go_wp2_with fail
        go_ret
        exact ⟨rfl, ht.trans ht2, hr2⟩
      · have hc2 : most < ((RNum s err).1 : Int) := by omega
        clear hc
        go_enter Tryz.func129, Tryz.ntmps129
        go_wp2_with fail
        refine (rnumber_any g s err w h hs).mono ?_
        rintro e w1 ⟨rfl, ht, hr⟩
        rw [HE.out] at hr
        obtain ⟨hl, c0, c1, f0, f1⟩ := hr.facts
        go_wp2_with fail
        refine (rfail_any g _ 8 w1 hr).mono ?_
        rintro e w2 ⟨rfl, ht2, hr2⟩
        go_wp2_with fail
        go_ret
        exact ⟨rfl, ht.trans ht2, hr2⟩
    · rw [if_neg hc]
      have hc1 : 0 ≤ most := by omega
      have hc2 : ((RNum s err).1 : Int) ≤ most := by omega
      clear hc
      go_enter Tryz.func129, Tryz.ntmps129
      go_wp2_with fail
      refine (rnumber_any g s err w h hs).mono ?_
      rintro e w1 ⟨rfl, ht, hr⟩
      have hr0 := hr
      rw [HE.out] at hr0
      obtain ⟨hl, c0, c1, f0, f1⟩ := hr0.facts
      go_wp2_with fail
      go_ret
      exact ⟨rfl, ht, hr⟩
theorem RCnt_size (s : ByteArray) (err most : Int) : (RCnt s err most).2.1.size ≤ s.size := by
  unfold RCnt
  have := RNum_size s err
  repeat' split
  · exact this
  · exact Nat.zero_le _
  · exact this
theorem RCnt_lt (s : ByteArray) (err most : Int) (hm1 : most ≤ 9223372036854775807) : (RCnt s err most).1 ≤ 9223372036854775807 := by
  unfold RCnt
  split
  · exact Nat.zero_le _
  · split
    · exact Nat.zero_le _
    · omega
set_option maxRecDepth 100000 in
set_option maxHeartbeats 1000000 in
theorem rtext_any (g : Nat) (s : ByteArray) (err most : Int) (w : World) (h : Rd w g s err) (hs : s.size ≤ 9223372036854775807) (hm0 : -9223372036854775808 ≤ most) (hm1 : most ≤ 9223372036854775807) :
    Calls Tryz.prog 128 #[.pointer (some ⟨g, 0, none⟩), .int .i64 most] w fun e w' => e = .returned (.string (RTxt s err most).1) ∧ Turned (· = g) w w' ∧ Rd w' g (RTxt s err most).2.1 (RTxt s err most).2.2 := by
  have hsz := RCnt_size s err most
  have hlt := RCnt_lt s err most hm1
  unfold RTxt
  by_cases he : (RCnt s err most).2.2 ≠ 0
  · rw [if_pos he]
    go_enter Tryz.func128, Tryz.ntmps128
    go_wp2_with fail
    refine (rcount_any g s err most w h hs hm0 hm1).mono ?_
    rintro e w1 ⟨rfl, ht, hr⟩
    obtain ⟨hl, c0, c1, f0, f1⟩ := hr.facts
    go_wp2_with fail
    go_ret
    exact ⟨rfl, ht, hr⟩
  · rw [if_neg he]
    have he0 : (RCnt s err most).2.2 = 0 := by omega
    have HE := Lib.hid he0
    clear he0 he
    by_cases hc : (RCnt s err most).2.1.size < (RCnt s err most).1
    · rw [if_pos hc]
      go_enter Tryz.func128, Tryz.ntmps128
      go_wp2_with fail
      refine (rcount_any g s err most w h hs hm0 hm1).mono ?_
      rintro e w1 ⟨rfl, ht, hr⟩
      rw [HE.out] at hr
      obtain ⟨hl, c0, c1, f0, f1⟩ := hr.facts
      go_wp2_with fail
      refine (rfail_any g _ 11 w1 hr).mono ?_
      rintro e w2 ⟨rfl, ht2, hr2⟩
      go_wp2_with fail
      go_ret
      exact ⟨rfl, ht.trans ht2, hr2⟩
    · rw [if_neg hc]
      go_enter Tryz.func128, Tryz.ntmps128
      go_wp2_with fail
      refine (rcount_any g s err most w h hs hm0 hm1).mono ?_
      rintro e w1 ⟨rfl, ht, hr⟩
      rw [HE.out] at hr
      obtain ⟨hl, c0, c1, f0, f1⟩ := hr.facts
      go_wp2_with fail
      go_ret
      unfold Rd at hr ⊢
      exact ⟨rfl, ht.trans (by (repeat' first | (with_reducible exact Turned.refl _ _) | (with_reducible assumption) | (with_reducible refine Turned.alloc ?_ _) | (with_reducible refine Turned.drew ?_) | (with_reducible refine Turned.drewN ?_ _) | (with_reducible refine Turned.setRow ?_ (by first | (simp; done) | (simp; omega) | omega) _) | (with_reducible refine Turned.setCell ?_ (by first | (simp; done) | (simp; omega) | omega) _) | ((with_reducible apply Turned.andGrew); rotate_left; (with_reducible assumption)) | ((with_reducible apply Turned.trans); rotate_left; (with_reducible assumption)) | fail)), by (apply Blk.conv; (· (repeat' first | (with_reducible assumption) | (with_reducible apply Blk.setRow) | ((with_reducible apply Blk.farRow); rotate_left; (focus (first | (simp; done) | (simp; omega) | omega))) | (with_reducible apply Blk.drew) | (with_reducible apply Blk.drewN) | (with_reducible apply Blk.set_) | (with_reducible exact Blk.new _ _ _ (by first | rfl | (simp; done) | (simp; omega))) | (with_reducible apply Blk.alloc) | ((with_reducible apply Blk.far); rotate_left; (focus (first | (simp; done) | (simp; omega) | omega))) | ((with_reducible apply Blk.grew); rotate_left; (with_reducible assumption)) | ((with_reducible apply Blk.turned); rotate_left; (with_reducible assumption); (focus (first | (simp; done) | (simp; omega) | omega))) | fail)); (· rfl))⟩
end Go.Proofs.YtnlaogneceanoaaGreat
namespace Go.Proofs.YtnlaogneceanoaaGreat
set_option linter.unusedVariables false
set_option linter.unusedSimpArgs false
set_option linter.unusedSectionVars false
open Go.RowKit
set_option maxRecDepth 100000 in
set_option maxHeartbeats 1000000 in
theorem refNumber_err (s : ByteArray) (err : Int) (w : World) (he : err ≠ 0) :
    Calls Tryz.prog 169 #[.agg #[.string s, .int .i64 err]] w fun e w' => e = .returned (.tuple #[.int .u64 0, .agg #[.string s, .int .i64 err]]) ∧ Grew w w' := by
  go_enter Tryz.func169, Tryz.ntmps169
  go_wp2
  go_region
  all_goals
    go_wp2
    go_returns
  all_goals exact ⟨rfl, by (repeat' first | (with_reducible exact Grew.refl _) | (with_reducible assumption) | (with_reducible refine Grew.alloc ?_ _) | (with_reducible refine Grew.drew ?_) | (with_reducible refine Grew.drewN ?_ _) | (with_reducible refine Grew.setRow ?_ (by first | (simp; done) | (simp; omega) | omega) _) | (with_reducible refine Grew.setCell ?_ (by first | (simp; done) | (simp; omega) | omega) _) | ((with_reducible apply Grew.trans); rotate_left; (with_reducible assumption)) | ((with_reducible apply Grew.turn); rotate_left; (with_reducible assumption); (focus (intro i hi; first | omega | (simp at hi; omega)))) | fail)⟩
theorem addval (m k : Nat) (b : UInt8) (hc : b.toNat % 128 * 128 ^ k + m < 18446744073709551616) :
    IntKind.u64.wrap ((m : Int) + IntKind.u64.wrap ((b.toNat : Int) % 128 * 2 ^ (7 * k))) = ((m + b.toNat % 128 * 128 ^ k : Nat) : Int) := by
  rw [show (b.toNat : Int) % 128 = ((b.toNat % 128 : Nat) : Int) from by omega, cast_mul_pow, two7]
  generalize b.toNat % 128 * 128 ^ k = x at *
  rw [IntKind.wrap_u64, IntKind.wrap_u64]
  omega
theorem addval9 (m : Nat) (b : UInt8) (hb : b.toNat ≤ 1) (hm : m < 9223372036854775808) :
    IntKind.u64.wrap ((m : Int) + IntKind.u64.wrap ((b.toNat : Int) % 128 * 9223372036854775808)) = ((m + b.toNat % 128 * 128 ^ 9 : Nat) : Int) := by
  rw [IntKind.wrap_u64, IntKind.wrap_u64, pow128_9]
  omega
theorem ret_num {a a' b b' : Int} {s s' : ByteArray} (h : a = a') (h1 : s = s') (h2 : b = b') : Ending.returned (.tuple #[.int .u64 a, .agg #[.string s, .int .i64 b]]) = .returned (.tuple #[.int .u64 a', .agg #[.string s', .int .i64 b']]) := by rw [h, h1, h2]
theorem RNum_none (s : ByteArray) (h : dec s.data.toList = (0, 0)) : RNum s 0 = (0, ⟨#[]⟩, 11) := by
  rw [RNum, if_neg (by simp), if_pos (by rw [decN, h])]
theorem RNum_some (s : ByteArray) (v n : Nat) (h : dec s.data.toList = (v, n + 1)) : RNum s 0 = (v, s.extract (n + 1) s.size, 0) := by
  rw [RNum, if_neg (by simp), if_neg (by rw [decN, h]; simp), decN, decV, h]
set_option maxRecDepth 100000 in
set_option maxHeartbeats 2000000 in
theorem refNumber_ok (s : ByteArray) (w : World) (hs : s.size ≤ 9223372036854775807) :
    Calls Tryz.prog 169 #[.agg #[.string s, .int .i64 0]] w fun e w' => e = .returned (.tuple #[.int .u64 (RNum s 0).1, .agg #[.string (RNum s 0).2.1, .int .i64 (RNum s 0).2.2]]) ∧ Grew w w' := by
  go_enter Tryz.func169, Tryz.ntmps169
  go_wp2
  go_loop [4, 5] (fun a b => ∃ (k m : Nat), k ≤ s.size ∧ k ≤ 10 ∧ (k ≤ 9 → m < 128 ^ k) ∧ a = .int .u64 m ∧ b = .int .i64 k ∧ dec s.data.toList = decF k m (s.data.toList.drop k)) (fun _ b => 10 - (intOf b).toNat)
  case atStart => exact ⟨0, 0, by omega, by omega, by simp, rfl, rfl, rfl⟩
  case round =>
    obtain ⟨k, m, hk, hk10, hm, rfl, rfl, hdec⟩ := hrel
    by_cases hlt : k < s.size ∧ k < 10
    · obtain ⟨hl1, hl2⟩ := hlt
      have hbl := (s[k]).toNat_lt
      rw [drop_at s k hl1] at hdec
      replace hm := hm (by omega)
      have HD := Lib.hid hdec
      clear hdec
      by_cases h9 : k = 9
      · subst h9
        by_cases hb : 1 < s[9].toNat
        · have HF := Lib.hid (RNum_none s (by rw [HD.out, decF, if_neg (by omega), if_pos ⟨rfl, hb⟩]))
          go_wp2
          go_returns
          exact ⟨by rw [HF.out]; exact ret_num rfl rfl rfl, by (repeat' first | (with_reducible exact Grew.refl _) | (with_reducible assumption) | (with_reducible refine Grew.alloc ?_ _) | (with_reducible refine Grew.drew ?_) | (with_reducible refine Grew.drewN ?_ _) | (with_reducible refine Grew.setRow ?_ (by first | (simp; done) | (simp; omega) | omega) _) | (with_reducible refine Grew.setCell ?_ (by first | (simp; done) | (simp; omega) | omega) _) | ((with_reducible apply Grew.trans); rotate_left; (with_reducible assumption)) | ((with_reducible apply Grew.turn); rotate_left; (with_reducible assumption); (focus (intro i hi; first | omega | (simp at hi; omega)))) | fail)⟩
        · rw [pow128_9] at hm
          have hv := addval9 m s[9] (by omega) hm
          have hlt : s[9].toNat < 128 := by omega
          by_cases h0 : s[9].toNat = 0
          · have HF := Lib.hid (RNum_none s (by rw [HD.out, decF, if_neg (by omega), if_neg (fun h => hb h.2), if_pos hlt, if_pos ⟨h0, by omega⟩]))
            have h0' : s[9].toNat ≤ 0 := by omega
            clear h0
            go_wp2
            go_returns
            exact ⟨by rw [HF.out]; exact ret_num rfl rfl rfl, by (repeat' first | (with_reducible exact Grew.refl _) | (with_reducible assumption) | (with_reducible refine Grew.alloc ?_ _) | (with_reducible refine Grew.drew ?_) | (with_reducible refine Grew.drewN ?_ _) | (with_reducible refine Grew.setRow ?_ (by first | (simp; done) | (simp; omega) | omega) _) | (with_reducible refine Grew.setCell ?_ (by first | (simp; done) | (simp; omega) | omega) _) | ((with_reducible apply Grew.trans); rotate_left; (with_reducible assumption)) | ((with_reducible apply Grew.turn); rotate_left; (with_reducible assumption); (focus (intro i hi; first | omega | (simp at hi; omega)))) | fail)⟩
          · have HF := Lib.hid (RNum_some s _ 9 (by rw [HD.out, decF, if_neg (by omega), if_neg (fun h => hb h.2), if_pos hlt, if_neg (fun h => h0 h.1)]))
            go_wp2
            go_region
            go_wp2
            go_returns
            exact ⟨by rw [HF.out]; exact ret_num (by rw [pow128_9]; omega) rfl rfl, by (repeat' first | (with_reducible exact Grew.refl _) | (with_reducible assumption) | (with_reducible refine Grew.alloc ?_ _) | (with_reducible refine Grew.drew ?_) | (with_reducible refine Grew.drewN ?_ _) | (with_reducible refine Grew.setRow ?_ (by first | (simp; done) | (simp; omega) | omega) _) | (with_reducible refine Grew.setCell ?_ (by first | (simp; done) | (simp; omega) | omega) _) | ((with_reducible apply Grew.trans); rotate_left; (with_reducible assumption)) | ((with_reducible apply Grew.turn); rotate_left; (with_reducible assumption); (focus (intro i hi; first | omega | (simp at hi; omega)))) | fail)⟩
      · have hk8 : k ≤ 8 := by omega
        have hlo := orval_lo m k s[k] hk8 hm
        have hv := addval m k s[k] hlo.1
        have HL := Lib.hid hlo.2
        by_cases hlt : s[k].toNat < 128
        · by_cases h0 : s[k].toNat = 0
          · by_cases hk0 : k = 0
            · subst hk0
              have hm0 : m = 0 := by rw [Nat.pow_zero] at hm; omega
              subst hm0
              have HF := Lib.hid (RNum_some s _ 0 (by rw [HD.out, decF, if_neg (by omega), if_neg (by omega), if_pos hlt, if_neg (by omega)]))
              have H0 := Lib.hid h0
              have h0' : s[0].toNat ≤ 0 := by omega
              clear h0 hm hlo
              go_wp2
              go_region
              go_wp2
              go_returns
              exact ⟨by rw [HF.out]; exact ret_num (by rw [H0.out]; rfl) rfl rfl, by (repeat' first | (with_reducible exact Grew.refl _) | (with_reducible assumption) | (with_reducible refine Grew.alloc ?_ _) | (with_reducible refine Grew.drew ?_) | (with_reducible refine Grew.drewN ?_ _) | (with_reducible refine Grew.setRow ?_ (by first | (simp; done) | (simp; omega) | omega) _) | (with_reducible refine Grew.setCell ?_ (by first | (simp; done) | (simp; omega) | omega) _) | ((with_reducible apply Grew.trans); rotate_left; (with_reducible assumption)) | ((with_reducible apply Grew.turn); rotate_left; (with_reducible assumption); (focus (intro i hi; first | omega | (simp at hi; omega)))) | fail)⟩
            · have HF := Lib.hid (RNum_none s (by rw [HD.out, decF, if_neg (by omega), if_neg (by omega), if_pos hlt, if_pos ⟨h0, by omega⟩]))
              have h0' : s[k].toNat ≤ 0 := by omega
              clear h0 hm hlo
              go_wp2
              go_returns
              exact ⟨by rw [HF.out]; exact ret_num rfl rfl rfl, by (repeat' first | (with_reducible exact Grew.refl _) | (with_reducible assumption) | (with_reducible refine Grew.alloc ?_ _) | (with_reducible refine Grew.drew ?_) | (with_reducible refine Grew.drewN ?_ _) | (with_reducible refine Grew.setRow ?_ (by first | (simp; done) | (simp; omega) | omega) _) | (with_reducible refine Grew.setCell ?_ (by first | (simp; done) | (simp; omega) | omega) _) | ((with_reducible apply Grew.trans); rotate_left; (with_reducible assumption)) | ((with_reducible apply Grew.turn); rotate_left; (with_reducible assumption); (focus (intro i hi; first | omega | (simp at hi; omega)))) | fail)⟩
          · have HF := Lib.hid (RNum_some s _ k (by rw [HD.out, decF, if_neg (by omega), if_neg (by omega), if_pos hlt, if_neg (fun h => h0 h.1)]))
            clear hm hlo
            go_wp2
            go_region
            go_wp2
            go_returns
            exact ⟨by rw [HF.out]; exact ret_num (by simp) rfl rfl, by (repeat' first | (with_reducible exact Grew.refl _) | (with_reducible assumption) | (with_reducible refine Grew.alloc ?_ _) | (with_reducible refine Grew.drew ?_) | (with_reducible refine Grew.drewN ?_ _) | (with_reducible refine Grew.setRow ?_ (by first | (simp; done) | (simp; omega) | omega) _) | (with_reducible refine Grew.setCell ?_ (by first | (simp; done) | (simp; omega) | omega) _) | ((with_reducible apply Grew.trans); rotate_left; (with_reducible assumption)) | ((with_reducible apply Grew.turn); rotate_left; (with_reducible assumption); (focus (intro i hi; first | omega | (simp at hi; omega)))) | fail)⟩
        · have HF := Lib.hid (show dec s.data.toList = _ by rw [HD.out, decF, if_neg (by omega), if_neg (by omega), if_neg hlt])
          clear hm hlo
          go_wp2
          go_round
          case rel => exact ⟨k + 1, m + s[k].toNat % 128 * 128 ^ k, by omega, by omega, fun _ => HL.out, by simp, by go_num, HF.out⟩
          case measure => simp [intOf]; omega
    · have hfin : decF k m (s.data.toList.drop k) = (0, 0) := by
        by_cases h10 : k = 10
        · rw [h10]; exact decF_ten _ _
        · rw [List.drop_eq_nil_of_le (by simp; omega)]; rfl
      rw [hfin] at hdec
      have HF := Lib.hid (RNum_none s hdec)
      clear hdec hfin
      by_cases hl1 : k < s.size
      · have hl2 : ¬ k < 10 := fun h => hlt ⟨hl1, h⟩
        clear hlt hm
        go_wp2
        go_returns
        exact ⟨by rw [HF.out]; exact ret_num rfl rfl rfl, by (repeat' first | (with_reducible exact Grew.refl _) | (with_reducible assumption) | (with_reducible refine Grew.alloc ?_ _) | (with_reducible refine Grew.drew ?_) | (with_reducible refine Grew.drewN ?_ _) | (with_reducible refine Grew.setRow ?_ (by first | (simp; done) | (simp; omega) | omega) _) | (with_reducible refine Grew.setCell ?_ (by first | (simp; done) | (simp; omega) | omega) _) | ((with_reducible apply Grew.trans); rotate_left; (with_reducible assumption)) | ((with_reducible apply Grew.turn); rotate_left; (with_reducible assumption); (focus (intro i hi; first | omega | (simp at hi; omega)))) | fail)⟩
      · clear hlt hm
        go_wp2
        go_returns
        exact ⟨by rw [HF.out]; exact ret_num rfl rfl rfl, by (repeat' first | (with_reducible exact Grew.refl _) | (with_reducible assumption) | (with_reducible refine Grew.alloc ?_ _) | (with_reducible refine Grew.drew ?_) | (with_reducible refine Grew.drewN ?_ _) | (with_reducible refine Grew.setRow ?_ (by first | (simp; done) | (simp; omega) | omega) _) | (with_reducible refine Grew.setCell ?_ (by first | (simp; done) | (simp; omega) | omega) _) | ((with_reducible apply Grew.trans); rotate_left; (with_reducible assumption)) | ((with_reducible apply Grew.turn); rotate_left; (with_reducible assumption); (focus (intro i hi; first | omega | (simp at hi; omega)))) | fail)⟩
theorem refNumber_any (s : ByteArray) (err : Int) (w : World) (hs : s.size ≤ 9223372036854775807) :
    Calls Tryz.prog 169 #[.agg #[.string s, .int .i64 err]] w fun e w' => e = .returned (.tuple #[.int .u64 (RNum s err).1, .agg #[.string (RNum s err).2.1, .int .i64 (RNum s err).2.2]]) ∧ Grew w w' := by
  by_cases he : err = 0
  · subst he; exact refNumber_ok s w hs
  · have := refNumber_err s err w he
    rw [RNum, if_pos he]
    exact this
end Go.Proofs.YtnlaogneceanoaaGreat
namespace Go.Proofs.YtnlaogneceanoaaGreat
set_option linter.unusedVariables false
set_option linter.unusedSimpArgs false
set_option linter.unusedSectionVars false
open Go.RowKit
theorem ret_ii {k : IntKind} {a a' b b' : Int} {s s' : ByteArray} (h : a = a') (h1 : s = s') (h2 : b = b') : Ending.returned (.tuple #[.int k a, .agg #[.string s, .int .i64 b]]) = .returned (.tuple #[.int k a', .agg #[.string s', .int .i64 b']]) := by rw [h, h1, h2]
theorem ret_si {a a' : ByteArray} {b b' : Int} {s s' : ByteArray} (h : a = a') (h1 : s = s') (h2 : b = b') : Ending.returned (.tuple #[.string a, .agg #[.string s, .int .i64 b]]) = .returned (.tuple #[.string a', .agg #[.string s', .int .i64 b']]) := by rw [h, h1, h2]
set_option maxRecDepth 100000 in
set_option maxHeartbeats 2000000 in
theorem refReadCount_any (s : ByteArray) (err most : Int) (w : World) (hs : s.size ≤ 9223372036854775807) (hm0 : -9223372036854775808 ≤ most) (hm1 : most ≤ 9223372036854775807) :
    Calls Tryz.prog 132 #[.agg #[.string s, .int .i64 err], .int .i64 most] w fun e w' => e = .returned (.tuple #[.int .i64 (RCnt s err most).1, .agg #[.string (RCnt s err most).2.1, .int .i64 (RCnt s err most).2.2]]) ∧ Grew w w' := by
  have hlt := RNum_lt s err
  by_cases he : (RNum s err).2.2 ≠ 0
  · have H0 := Lib.hid (RNum_zero s err he)
    have HF := Lib.hid (show RCnt s err most = (0, (RNum s err).2.1, (RNum s err).2.2) by rw [RCnt, if_pos he])
    have hb : ((RNum s err).2.2 == 0) = false := beq_eq_false_iff_ne.2 he
    have h00 : (RNum s err).1 ≤ 0 := by rw [H0.out]; omega
    clear he
    go_enter Tryz.func132, Tryz.ntmps132
    go_wp2_with fail
    refine (refNumber_any s err _ hs).mono ?_
    rintro e w1 ⟨rfl, hg⟩
    have hce := hg.cellEq
    have hfe := hg.frozenEq
    have hz1 : w.heap.size + 1 < w1.heap.size := by have := hg.size; simp at this; omega
    have hz0 : w.heap.size < w1.heap.size := by omega
    go_wp2_with fail
    go_region
    go_wp2_with fail
    refine bodyPost_ret (by first | (simp [*, results, Tryz.results132, go_sem]; rfl) | simp [*, results, Tryz.results132, go_sem]) rfl ?_
    exact ⟨by rw [HF.out] <;> exact ret_ii (by rw [H0.out] <;> rfl) rfl rfl, by (repeat' first | (with_reducible exact Grew.refl _) | (with_reducible assumption) | (with_reducible refine Grew.alloc ?_ _) | (with_reducible refine Grew.drew ?_) | (with_reducible refine Grew.drewN ?_ _) | (with_reducible refine Grew.setRow ?_ (by first | (simp; done) | (simp; omega) | omega) _) | (with_reducible refine Grew.setCell ?_ (by first | (simp; done) | (simp; omega) | omega) _) | ((with_reducible apply Grew.trans); rotate_left; (with_reducible assumption)) | ((with_reducible apply Grew.turn); rotate_left; (with_reducible assumption); (focus (intro i hi; first | omega | (simp at hi; omega)))) | fail)⟩
  · have he0 : (RNum s err).2.2 = 0 := by omega
    have hb : ((RNum s err).2.2 == 0) = true := beq_iff_eq.2 he0
    by_cases hc : most < 0
    · have HF := Lib.hid (show RCnt s err most = (0, ⟨#[]⟩, 8) by rw [RCnt, if_neg he, if_pos (.inl hc)])
      clear he he0
      go_enter Tryz.func132, Tryz.ntmps132
      go_wp2_with fail
      refine (refNumber_any s err _ hs).mono ?_
      rintro e w1 ⟨rfl, hg⟩
      have hce := hg.cellEq
      have hfe := hg.frozenEq
      have hz1 : w.heap.size + 1 < w1.heap.size := by have := hg.size; simp at this; omega
      have hz0 : w.heap.size < w1.heap.size := by omega
      go_wp2
      refine bodyPost_ret (by first | (simp [*, results, Tryz.results132, go_sem]; rfl) | simp [*, results, Tryz.results132, go_sem]) rfl ?_
      exact ⟨by rw [HF.out] <;> exact ret_ii rfl rfl rfl, by (repeat' first | (with_reducible exact Grew.refl _) | (with_reducible assumption) | (with_reducible refine Grew.alloc ?_ _) | (with_reducible refine Grew.drew ?_) | (with_reducible refine Grew.drewN ?_ _) | (with_reducible refine Grew.setRow ?_ (by first | (simp; done) | (simp; omega) | omega) _) | (with_reducible refine Grew.setCell ?_ (by first | (simp; done) | (simp; omega) | omega) _) | ((with_reducible apply Grew.trans); rotate_left; (with_reducible assumption)) | ((with_reducible apply Grew.turn); rotate_left; (with_reducible assumption); (focus (intro i hi; first | omega | (simp at hi; omega)))) | fail)⟩
    · by_cases hc2 : most < ((RNum s err).1 : Int)
      · have HF := Lib.hid (show RCnt s err most = (0, ⟨#[]⟩, 8) by rw [RCnt, if_neg he, if_pos (.inr hc2)])
        clear he he0
        go_enter Tryz.func132, Tryz.ntmps132
        go_wp2_with fail
        refine (refNumber_any s err _ hs).mono ?_
        rintro e w1 ⟨rfl, hg⟩
        have hce := hg.cellEq
        have hfe := hg.frozenEq
        have hz1 : w.heap.size + 1 < w1.heap.size := by have := hg.size; simp at this; omega
        have hz0 : w.heap.size < w1.heap.size := by omega
        go_wp2
        refine bodyPost_ret (by first | (simp [*, results, Tryz.results132, go_sem]; rfl) | simp [*, results, Tryz.results132, go_sem]) rfl ?_
        exact ⟨by rw [HF.out] <;> exact ret_ii rfl rfl rfl, by (repeat' first | (with_reducible exact Grew.refl _) | (with_reducible assumption) | (with_reducible refine Grew.alloc ?_ _) | (with_reducible refine Grew.drew ?_) | (with_reducible refine Grew.drewN ?_ _) | (with_reducible refine Grew.setRow ?_ (by first | (simp; done) | (simp; omega) | omega) _) | (with_reducible refine Grew.setCell ?_ (by first | (simp; done) | (simp; omega) | omega) _) | ((with_reducible apply Grew.trans); rotate_left; (with_reducible assumption)) | ((with_reducible apply Grew.turn); rotate_left; (with_reducible assumption); (focus (intro i hi; first | omega | (simp at hi; omega)))) | fail)⟩
      · have HF := Lib.hid (show RCnt s err most = RNum s err by rw [RCnt, if_neg he, if_neg (by omega)])
        clear he he0
        go_enter Tryz.func132, Tryz.ntmps132
        go_wp2_with fail
        refine (refNumber_any s err _ hs).mono ?_
        rintro e w1 ⟨rfl, hg⟩
        have hce := hg.cellEq
        have hfe := hg.frozenEq
        have hz1 : w.heap.size + 1 < w1.heap.size := by have := hg.size; simp at this; omega
        have hz0 : w.heap.size < w1.heap.size := by omega
        go_wp2_with fail
        go_region
        go_wp2_with fail
        refine bodyPost_ret (by first | (simp [*, results, Tryz.results132, go_sem]; rfl) | simp [*, results, Tryz.results132, go_sem]) rfl ?_
        exact ⟨by rw [HF.out] <;> exact ret_ii rfl rfl rfl, by (repeat' first | (with_reducible exact Grew.refl _) | (with_reducible assumption) | (with_reducible refine Grew.alloc ?_ _) | (with_reducible refine Grew.drew ?_) | (with_reducible refine Grew.drewN ?_ _) | (with_reducible refine Grew.setRow ?_ (by first | (simp; done) | (simp; omega) | omega) _) | (with_reducible refine Grew.setCell ?_ (by first | (simp; done) | (simp; omega) | omega) _) | ((with_reducible apply Grew.trans); rotate_left; (with_reducible assumption)) | ((with_reducible apply Grew.turn); rotate_left; (with_reducible assumption); (focus (intro i hi; first | omega | (simp at hi; omega)))) | fail)⟩
set_option maxRecDepth 100000 in
set_option maxHeartbeats 2000000 in
theorem refReadText_any (s : ByteArray) (err most : Int) (w : World) (hs : s.size ≤ 9223372036854775807) (hm0 : -9223372036854775808 ≤ most) (hm1 : most ≤ 9223372036854775807) :
    Calls Tryz.prog 131 #[.agg #[.string s, .int .i64 err], .int .i64 most] w fun e w' => e = .returned (.tuple #[.string (RTxt s err most).1, .agg #[.string (RTxt s err most).2.1, .int .i64 (RTxt s err most).2.2]]) ∧ Grew w w' := by
  have hsz := RCnt_size s err most
  have hlt := RCnt_lt s err most hm1
  by_cases he : (RCnt s err most).2.2 ≠ 0
  · have HF := Lib.hid (show RTxt s err most = (⟨#[]⟩, (RCnt s err most).2.1, (RCnt s err most).2.2) by rw [RTxt, if_pos he])
    have hb : ((RCnt s err most).2.2 == 0) = false := beq_eq_false_iff_ne.2 he
    have hb2 : ((RCnt s err most).2.2 != 0) = true := by rw [bne_iff_ne]; exact he
    clear he
    go_enter Tryz.func131, Tryz.ntmps131
    go_wp2_with fail
    refine (refReadCount_any s err most _ hs hm0 hm1).mono ?_
    rintro e w1 ⟨rfl, hg⟩
    have hce := hg.cellEq
    have hfe := hg.frozenEq
    have hz1 : w.heap.size + 1 < w1.heap.size := by have := hg.size; simp at this; omega
    have hz0 : w.heap.size < w1.heap.size := by omega
    go_wp2_with fail
    go_region
    go_wp2_with fail
    refine bodyPost_ret (by first | (simp [*, results, Tryz.results131, go_sem]; rfl) | simp [*, results, Tryz.results131, go_sem]) rfl ?_
    exact ⟨by rw [HF.out] <;> exact ret_si rfl rfl rfl, by (repeat' first | (with_reducible exact Grew.refl _) | (with_reducible assumption) | (with_reducible refine Grew.alloc ?_ _) | (with_reducible refine Grew.drew ?_) | (with_reducible refine Grew.drewN ?_ _) | (with_reducible refine Grew.setRow ?_ (by first | (simp; done) | (simp; omega) | omega) _) | (with_reducible refine Grew.setCell ?_ (by first | (simp; done) | (simp; omega) | omega) _) | ((with_reducible apply Grew.trans); rotate_left; (with_reducible assumption)) | ((with_reducible apply Grew.turn); rotate_left; (with_reducible assumption); (focus (intro i hi; first | omega | (simp at hi; omega)))) | fail)⟩
  · have he0 : (RCnt s err most).2.2 = 0 := by omega
    have hb : ((RCnt s err most).2.2 == 0) = true := beq_iff_eq.2 he0
    have hb2 : ((RCnt s err most).2.2 != 0) = false := by rw [he0]; rfl
    by_cases hc : (RCnt s err most).2.1.size < (RCnt s err most).1
    · have HF := Lib.hid (show RTxt s err most = (⟨#[]⟩, ⟨#[]⟩, 11) by rw [RTxt, if_neg he, if_pos hc])
      clear he he0
      go_enter Tryz.func131, Tryz.ntmps131
      go_wp2_with fail
      refine (refReadCount_any s err most _ hs hm0 hm1).mono ?_
      rintro e w1 ⟨rfl, hg⟩
      have hce := hg.cellEq
      have hfe := hg.frozenEq
      have hz1 : w.heap.size + 1 < w1.heap.size := by have := hg.size; simp at this; omega
      have hz0 : w.heap.size < w1.heap.size := by omega
      go_wp2
      refine bodyPost_ret (by first | (simp [*, results, Tryz.results131, go_sem]; rfl) | simp [*, results, Tryz.results131, go_sem]) rfl ?_
      exact ⟨by rw [HF.out] <;> exact ret_si rfl rfl rfl, by (repeat' first | (with_reducible exact Grew.refl _) | (with_reducible assumption) | (with_reducible refine Grew.alloc ?_ _) | (with_reducible refine Grew.drew ?_) | (with_reducible refine Grew.drewN ?_ _) | (with_reducible refine Grew.setRow ?_ (by first | (simp; done) | (simp; omega) | omega) _) | (with_reducible refine Grew.setCell ?_ (by first | (simp; done) | (simp; omega) | omega) _) | ((with_reducible apply Grew.trans); rotate_left; (with_reducible assumption)) | ((with_reducible apply Grew.turn); rotate_left; (with_reducible assumption); (focus (intro i hi; first | omega | (simp at hi; omega)))) | fail)⟩
    · have HF := Lib.hid (show RTxt s err most = ((RCnt s err most).2.1.extract 0 (RCnt s err most).1, (RCnt s err most).2.1.extract (RCnt s err most).1 (RCnt s err most).2.1.size, 0) by rw [RTxt, if_neg he, if_neg hc])
      clear he he0
      go_enter Tryz.func131, Tryz.ntmps131
      go_wp2_with fail
      refine (refReadCount_any s err most _ hs hm0 hm1).mono ?_
      rintro e w1 ⟨rfl, hg⟩
      have hce := hg.cellEq
      have hfe := hg.frozenEq
      have hz1 : w.heap.size + 1 < w1.heap.size := by have := hg.size; simp at this; omega
      have hz0 : w.heap.size < w1.heap.size := by omega
      go_wp2_with fail
      go_region
      go_wp2_with fail
      refine bodyPost_ret (by first | (simp [*, results, Tryz.results131, go_sem]; rfl) | simp [*, results, Tryz.results131, go_sem]) rfl ?_
      exact ⟨by rw [HF.out] <;> exact ret_si rfl rfl rfl, by (repeat' first | (with_reducible exact Grew.refl _) | (with_reducible assumption) | (with_reducible refine Grew.alloc ?_ _) | (with_reducible refine Grew.drew ?_) | (with_reducible refine Grew.drewN ?_ _) | (with_reducible refine Grew.setRow ?_ (by first | (simp; done) | (simp; omega) | omega) _) | (with_reducible refine Grew.setCell ?_ (by first | (simp; done) | (simp; omega) | omega) _) | ((with_reducible apply Grew.trans); rotate_left; (with_reducible assumption)) | ((with_reducible apply Grew.turn); rotate_left; (with_reducible assumption); (focus (intro i hi; first | omega | (simp at hi; omega)))) | fail)⟩
end Go.Proofs.YtnlaogneceanoaaGreat
namespace Go.Proofs.YtnlaogneceanoaaGreat
set_option linter.unusedVariables false
set_option linter.unusedSimpArgs false
set_option linter.unusedSectionVars false
open Go.RowKit
theorem hib_toNat (n : Nat) : (hib n).toNat = n % 128 + 128 := by
  rw [hib, UInt8.toNat_ofNat', Nat.mod_eq_of_lt (by omega)]
theorem ofNat_lt (n : Nat) (h : n < 256) : (UInt8.ofNat n).toNat = n := by
  rw [UInt8.toNat_ofNat', Nat.mod_eq_of_lt (by omega)]
theorem digit_sum (n i : Nat) : n % 128 * 128 ^ i + n / 128 * 128 ^ (i + 1) = n * 128 ^ i := by
  rw [Nat.pow_succ, ← Nat.mul_assoc, Nat.mul_right_comm, ← Nat.add_mul]
  congr 1
  omega
theorem decF_enc : ∀ (k i acc n : Nat) (rest : List UInt8), i + k = 9 → n * 128 ^ i < 18446744073709551616 → (0 < i → 0 < n) →
    decF i acc (encF k n ++ rest) = (acc + n * 128 ^ i, i + (encF k n).length) := by
  intro k
  induction k with
  | zero =>
    intro i acc n rest hi hn hp
    obtain rfl : i = 9 := by omega
    rw [pow128_9] at hn
    have hb := ofNat_lt n (by omega)
    have hp' := hp (by omega)
    simp only [encF, List.singleton_append, List.length_singleton]
    rw [decF, if_neg (by omega), hb, if_neg (by omega), if_pos (by omega), if_neg (by omega), Nat.mod_eq_of_lt (by omega)]
  | succ k ih =>
    intro i acc n rest hi hn hp
    rw [encF]
    split
    · rename_i h
      have hb := ofNat_lt n (by omega)
      simp only [List.singleton_append, List.length_singleton]
      rw [decF, if_neg (by omega), hb, if_neg (by omega), if_pos h, if_neg (by omega), Nat.mod_eq_of_lt h]
    · rename_i h
      have hb := hib_toNat n
      simp only [List.cons_append, List.length_cons]
      rw [decF, if_neg (by omega), hb, if_neg (by omega), if_neg (by omega), show (n % 128 + 128) % 128 = n % 128 from by omega]
      have hs := digit_sum n i
      rw [ih (i + 1) _ (n / 128) rest (by omega) (by omega) (by omega), Nat.add_assoc, hs]
      congr 1
      omega
theorem dec_enc (n : Nat) (rest : List UInt8) (h : n < 18446744073709551616) : dec (enc n ++ rest) = (n, (enc n).length) := by
  have := decF_enc 9 0 0 n rest (by omega) (by simpa using h) (by omega)
  simpa [dec, enc] using this
theorem encF_pos (k n : Nat) : 0 < (encF k n).length := by
  cases k with
  | zero => simp [encF]
  | succ k => rw [encF]; split <;> simp
theorem enc_len (n : Nat) : (enc n).length ≤ 10 := encF_len 9 n
theorem enc_pos (n : Nat) : 0 < (enc n).length := encF_pos 9 n
theorem RTxt_size (s : ByteArray) (err most : Int) : (RTxt s err most).2.1.size ≤ s.size := by
  have h := RCnt_size s err most
  unfold RTxt
  repeat' split
  · exact h
  · exact Nat.zero_le _
  · rw [ByteArray.size_extract]; omega
end Go.Proofs.YtnlaogneceanoaaGreat
namespace Go.Proofs.YtnlaogneceanoaaGreat
set_option linter.unusedVariables false
set_option linter.unusedSimpArgs false
set_option linter.unusedSectionVars false
open Go.RowKit
theorem ret_str {a b : ByteArray} (h : a = b) : Ending.returned (.string a) = .returned (.string b) := by rw [h]
def zeros (n : Nat) : ByteArray := ⟨(List.replicate n (0 : UInt8)).toArray⟩
theorem zeros_size (n : Nat) : (zeros n).size = n := by simp [zeros, ByteArray.size]
def padS (n : Nat) (s : ByteArray) : ByteArray := s ++ zeros (n - s.size)
theorem info_u8 : (Tryz.prog.info? 5).map (fun i => (i.zero, i.size, i.bytes)) = some (some (.int .u8 0), 1, 1) := by kernel_rfl
set_option maxRecDepth 100000 in
theorem made_zero (w : World) (n : Nat) (hn : n ≤ 1000000) : (Instr.makeSlice 174 (.int .i64 (n : Int)) (.int .i64 (n : Int))).run Tryz.prog w = .ok (.slice (some ⟨w.heap.size, 0, none⟩) n n) (w.alloc (.cells (Array.replicate n (Value.int .u8 0)) 5)) := by
  obtain ⟨i, hi, hz0, hz1, hz2⟩ := info_parts info_u8
  have h := run_make (P := Tryz.prog) w 174 5 i _ Tryz.underlying174 hi hz0 .i64 .i64 (n : Int) (n : Int) (by omega) (by omega) (by rw [hz2]; omega) (by omega)
  rw [hz1] at h
  simp only [Int.toNat_natCast, Nat.mul_one] at h
  rw [h]
  congr 3
  unfold madeCells
  apply Array.ext
  · simp
  · intro j h1 h2
    simp [Value.cells, Nat.mod_one]
set_option maxRecDepth 100000 in
theorem conv_zero (w : World) (n : Nat) : (convert 174 9 (.slice (some ⟨w.heap.size, 0, none⟩) n n)).run Tryz.prog (w.alloc (.cells (Array.replicate n (Value.int .u8 0)) 5)) = .ok (.string (zeros n)) (w.alloc (.cells (Array.replicate n (Value.int .u8 0)) 5)) :=
  conv_row _ 174 9 5 _ n n (List.replicate n 0) _ 5 Tryz.underlying174 Tryz.underlying5 Tryz.underlying9 (by simp) (heap_alloc_new w _) (fun j hj => by
    simp only [List.length_replicate] at hj
    simp [hj, bcell])
set_option maxRecDepth 100000 in
set_option maxHeartbeats 1000000 in
theorem fill_any (s : ByteArray) (w : World) (hs : s.size ≤ 1024) :
    Calls Tryz.prog 130 #[.string s] w fun e w' => e = .returned (.string (padS 1024 s)) ∧ Grew w w' := by
  obtain ⟨n, hn⟩ : ∃ n, 1024 - s.size = n := ⟨_, rfl⟩
  have h1 : (1024 : Int) - (s.size : Int) = (n : Int) := by omega
  have HE := Lib.hid (show padS 1024 s = s ++ zeros n from by unfold padS; rw [hn])
  have hmk := made_zero w n (by omega)
  have hcv := conv_zero w n
  have hzs := zeros_size n
  have hn2 : n ≤ 1024 := by omega
  clear hn
  go_enter Tryz.func130, Tryz.ntmps130
  go_wp2_with fail
  go_ret
  exact ⟨ret_str (by rw [HE.out]), by (repeat' first | (with_reducible exact Grew.refl _) | (with_reducible assumption) | (with_reducible refine Grew.alloc ?_ _) | (with_reducible refine Grew.drew ?_) | (with_reducible refine Grew.drewN ?_ _) | (with_reducible refine Grew.setRow ?_ (by first | (simp; done) | (simp; omega) | omega) _) | (with_reducible refine Grew.setCell ?_ (by first | (simp; done) | (simp; omega) | omega) _) | ((with_reducible apply Grew.trans); rotate_left; (with_reducible assumption)) | ((with_reducible apply Grew.turn); rotate_left; (with_reducible assumption); (focus (intro i hi; first | omega | (simp at hi; omega)))) | fail)⟩
theorem padS_full (n : Nat) (s : ByteArray) (h : n ≤ s.size) : padS n s = s := by
  unfold padS
  rw [show n - s.size = 0 by omega]
  show s ++ ⟨#[]⟩ = s
  exact ByteArray.append_empty
theorem padS_step (n : Nat) (s : ByteArray) (h : s.size < n) : padS n s = padS n (s ++ ⟨#[0]⟩) := by
  unfold padS
  have hs : (s ++ (⟨#[0]⟩ : ByteArray)).size = s.size + 1 := by simp [ByteArray.size_append]; rfl
  rw [hs, show n - s.size = (n - (s.size + 1)) + 1 by omega]
  rw [ByteArray.append_assoc]
  congr 1
set_option maxRecDepth 100000 in
set_option maxHeartbeats 1000000 in
theorem padded_any (s : ByteArray) (n : Nat) (w : World) (hn : n ≤ 2000) (hs : s.size ≤ 1000000) :
    Calls Tryz.prog 136 #[.string s, .int .i64 (n : Int)] w fun e w' => e = .returned (.string (padS n s)) ∧ w = w' := by
  go_enter Tryz.func136, Tryz.ntmps136
  go_wp2_with fail
  go_loopg [0] (n + 1 - s.size) (fun gk v wr => w = wr ∧ ∃ u : ByteArray, v = .string u ∧ gk = n + 1 - u.size ∧ u.size ≤ 1000000 ∧ padS n u = padS n s)
  case atStart => exact ⟨rfl, s, rfl, rfl, hs, rfl⟩
  case round =>
    obtain ⟨rfl, u, rfl, hgk, hu, hp⟩ := hrel
    have HGK := Lib.hid hgk
    have HP := Lib.hid hp
    clear hgk hp
    have hsz : (u ++ (⟨#[0]⟩ : ByteArray)).size = u.size + 1 := by simp [ByteArray.size_append]; rfl
    have HSZ := Lib.hid hsz
    clear hsz
    by_cases hlt : u.size < n
    · have hlti : (u.size : Int) < (n : Int) := by omega
      have HPS := Lib.hid (padS_step n u hlt)
      go_wp2_with fail
      go_roundg (n + 1 - (u.size + 1))
      case measure => rw [HGK.out]; omega
      case rel => exact ⟨rfl, _, rfl, by rw [HSZ.out], by rw [HSZ.out]; omega, by rw [← HPS.out]; exact HP.out⟩
    · have hlti : ¬ (u.size : Int) < (n : Int) := by omega
      have HPF := Lib.hid (padS_full n u (by omega))
      go_wp2_with fail
      go_ret
      exact ⟨ret_str (by rw [← HP.out, HPF.out]), rfl⟩
def zeroB (s : ByteArray) : Bool := s.data.toList.all (· == 0)
set_option maxRecDepth 100000 in
set_option maxHeartbeats 1000000 in
theorem zero_any (s : ByteArray) (w : World) (hs : s.size ≤ 1000000) :
    Calls Tryz.prog 133 #[.string s] w fun e w' => e = .returned (.bool (zeroB s)) ∧ w = w' := by
  go_enter Tryz.func133, Tryz.ntmps133
  go_wp2_with fail
  go_loopg [3] s.size (fun gk i wr => w = wr ∧ ∃ k : Nat, k ≤ s.size ∧ gk = s.size - k ∧ i = .int .i64 k ∧ ∀ j (hj : j < s.size), j < k → s[j] = 0)
  case atStart => exact ⟨rfl, 0, by omega, by omega, rfl, fun j hj h => by omega⟩
  case round =>
    obtain ⟨rfl, k, hk, hgk, rfl, hall⟩ := hrel
    have HGK := Lib.hid hgk
    have HA := Lib.hid hall
    clear hgk hall
    by_cases hlt : k < s.size
    · by_cases hz : s[k] = 0
      · have hb : ((s[k].toNat : Int) != 0) = false := by rw [hz]; rfl
        have HN := Lib.hid (show ∀ j (hj : j < s.size), j < k + 1 → s[j] = 0 from fun j hj hjk => by
          by_cases hjk' : j = k
          · subst hjk'; exact hz
          · exact HA.out j hj (by omega))
        clear hz
        go_wp2_with fail
        go_roundg (s.size - (k + 1))
        case measure => rw [HGK.out]; omega
        case rel => exact ⟨rfl, k + 1, by omega, by omega, by go_num, HN.out⟩
      · have hb : ((s[k].toNat : Int) != 0) = true := by
          rw [bne_iff_ne]
          intro h
          exact hz (UInt8.toNat_inj.1 (by simpa using h))
        have HE := Lib.hid (show zeroB s = false from by
          unfold zeroB
          rw [List.all_eq_false]
          exact ⟨s[k], List.getElem_mem (l := s.data.toList) hlt, by simpa using hz⟩)
        clear hz
        go_wp2_with fail
        go_ret
        exact ⟨ret_bool (by rw [HE.out]), rfl⟩
    · have HE := Lib.hid (show zeroB s = true from by
        unfold zeroB
        rw [List.all_eq_true]
        intro x hx
        obtain ⟨j, hj, rfl⟩ := List.getElem_of_mem hx
        have := HA.out j hj (by have : j < s.size := hj; omega)
        show (s[j] == 0) = true
        rw [this]
        rfl)
      go_wp2_with fail
      go_ret
      exact ⟨ret_bool (by rw [HE.out]), rfl⟩
end Go.Proofs.YtnlaogneceanoaaGreat
