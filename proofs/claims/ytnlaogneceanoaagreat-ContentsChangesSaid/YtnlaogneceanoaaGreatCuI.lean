/- Chapter 8: the reference's index, Find, Free; Same on both sides. Chapter 8: Extend and Release of chapter 6, once more: what they return is new. Chapter 8: what the changes do with a label. Chapter 8: what Replace and Confirm do with a label. -/
import Derived.Test.YtnlaogneceanoaaGreatCuF
import Derived.Test.YtnlaogneceanoaaGreatCuH
namespace Go.Proofs.YtnlaogneceanoaaGreat
set_option linter.unusedVariables false
set_option linter.unusedSimpArgs false
set_option linter.unusedSectionVars false
open Go.RowKit
attribute [local go_sem ↓] Go.wp_at_zero Go.wp_at_succ
section
variable (A : Option Addr) (c : Nat) (xs : List LabE) (T : Tab) (id unit : Int) (w : World)
set_option maxRecDepth 100000 in
set_option maxHeartbeats 8000000 in
theorem rindex_any (h : TabAt w A c xs T) (hs : SmallT T) (n : Nat) (hn : n = T.labels.length) (ix : Int) (hk : idxT T id unit = ix) :
    Calls Tryz.prog 40 #[.agg #[.string T.name, .int .i64 T.tracks, .slice A n c], .agg #[.int .i64 id, .int .i64 unit]] w fun e w' => e = .returned (.int .i64 ix) ∧ Grew w w' := by
  subst hk; subst hn
  have hlen := hs.len
  have hg0 := ((Grew.refl w).alloc (.cells #[.string T.name, .int .i64 T.tracks, .slice A T.labels.length c] 24)).alloc (.cells #[.int .i64 id, .int .i64 unit] 26)
  have hb0 := (Blk.new w 24 #[.string T.name, .int .i64 T.tracks, .slice A T.labels.length c] rfl).alloc (.cells #[.int .i64 id, .int .i64 unit] 26)
  have hr0 := Blk.new (w.alloc (.cells #[.string T.name, .int .i64 T.tracks, .slice A T.labels.length c] 24)) 26 #[.int .i64 id, .int .i64 unit] (n := w.heap.size + 1) (by simp)
  have HTB := Lib.hid h
  have HIT := Lib.hid (show idxT T id unit = idxP (hitL id unit) T.labels from rfl)
  have x2 := hb0.cell 2
  clear h hs
  go_enter Tryz.func40, Tryz.ntmps40
  go_wp2_with fail
  go_loopg [5] T.labels.length (fun gk i wr => ∃ k : Nat, k ≤ T.labels.length ∧ gk = T.labels.length - k ∧ i = .int .i64 k ∧ (∀ j (hj : j < T.labels.length), j < k → hitL id unit T.labels[j] = false) ∧ Blk wr w.heap.size 24 #[.string T.name, .int .i64 T.tracks, .slice A T.labels.length c] ∧ Blk wr (w.heap.size + 1) 26 #[.int .i64 id, .int .i64 unit] ∧ Grew w wr)
  case atStart => exact ⟨0, by omega, by omega, rfl, fun j _ h => by omega, hb0, hr0, hg0⟩
  case round =>
    obtain ⟨k, hk, hgk, rfl, hall, hb, hr, hg⟩ := hrel
    have HGK := Lib.hid hgk
    have HA := Lib.hid hall
    have HG := Lib.hid hg
    have HB := Lib.hid hb
    have HR := Lib.hid hr
    clear x2 hgk hall hb0 hr0 hg0
    have x2 := hb.cell 2
    have hbl0 := hb.lt
    have hrl0 := hr.lt
    by_cases hlt : k < T.labels.length
    · obtain ⟨b, off, B, d, l, rfl, hbl, hxk, hv, hla, c0, c1, c2, c3, c4⟩ := (HTB.out.hold hg).at_ hlt
      have HV := Lib.hid hv
      have hHL : hitL id unit l = (!(id == 0) && (l.id == id) && (l.unit == unit)) := rfl
      have HHL := Lib.hid hHL
      have HNX0 := Lib.hid (show hitL id unit l = false → ∀ j (hj : j < T.labels.length), j < k + 1 → hitL id unit T.labels[j] = false from fun hf j hj hjk => by
        by_cases hjk' : j = k
        · subst hjk'; rw [HV.out]; exact hf
        · exact HA.out j hj (by omega))
      have HI0 := Lib.hid (show hitL id unit l = true → idxT T id unit = (k : Int) from fun ht => HIT.out.trans (idxP_hit _ _ k hlt (by rw [HV.out]; exact ht) HA.out))
      have hS : (fun w' : World => w'.cell? ⟨w.heap.size, 2, none⟩ = some (.slice (some ⟨b, off, none⟩) T.labels.length c) ∧ w'.cell? ⟨w.heap.size + 1, 0, none⟩ = some (.int .i64 id) ∧ w'.cell? ⟨w.heap.size + 1, 1, none⟩ = some (.int .i64 unit) ∧ w'.cell? ⟨b, off + k * 5, none⟩ = some (.int .i64 l.id) ∧ w'.cell? ⟨b, off + k * 5 + 1, none⟩ = some (.int .i64 l.unit)) wr.drew := ⟨hb.drew.cell 2, hr.drew.cell 0, hr.drew.cell 1, c0, c1⟩
      clear hv hxk hla hb hr hg hHL c2 c3 c4
      cases b1 : (id == 0) with
      | true =>
        have HNX := Lib.hid (HNX0.out (HHL.out.trans (by rw [b1]; rfl)))
        have HC1 := Lib.hid (neq_beq _ _ b1)
        clear b1
        go_wp2_with fail
        refine wp_region_R [] (fun w' : World => w'.cell? ⟨w.heap.size, 2, none⟩ = some (.slice (some ⟨b, off, none⟩) T.labels.length c) ∧ w'.cell? ⟨w.heap.size + 1, 0, none⟩ = some (.int .i64 id) ∧ w'.cell? ⟨w.heap.size + 1, 1, none⟩ = some (.int .i64 unit) ∧ w'.cell? ⟨b, off + k * 5, none⟩ = some (.int .i64 l.id) ∧ w'.cell? ⟨b, off + k * 5 + 1, none⟩ = some (.int .i64 l.unit)) (by kernel_rfl) ?_
        refine wpAnyR_takeQ (i := 0) (v := ?_) (some 13) rfl rfl (by kernel_rfl) (by kernel_rfl) (by kernel_rfl) (by kernel_rfl) (fun _ _ _ h => h) (Or.inl ⟨by rfl, ?_⟩) ?_
        rotate_left
        focus (intro wS hSw; (try dsimp only at hSw); go_simp; (try with_reducible rfl); (try (first | (rw [if_pos (by omega)]; (try go_simp); (try with_reducible rfl)) | (rw [if_neg (by omega)]; (try go_simp); (try with_reducible rfl)))))
        try simp only [Act.put, zA, zB, zC]
        refine wpAnyR_take (i := 1) (v := ?_) [2, 3, 4, 5, 6, 7, 8, 9, 10, 11, 12, 13, 14, 15, 16, 17, 18, 19, 20, 21, 22, 23, 24] (some 14) rfl rfl (by kernel_rfl) (by kernel_rfl) (by kernel_rfl) (by kernel_rfl) (by kernel_rfl) (by kernel_rfl) (by kernel_rfl) (fun _ _ _ h => h) (Or.inl ⟨by rfl, ?_⟩) hS ?_
        rotate_left
        focus (intro wS hSw; (try dsimp only at hSw); go_simp; (try with_reducible rfl); (try (first | (rw [if_pos (by omega)]; (try go_simp); (try with_reducible rfl)) | (rw [if_neg (by omega)]; (try go_simp); (try with_reducible rfl)))))
        try simp only [Act.put, zA, zB, zC]
        refine wpAnyR_takeQ (i := 2) (v := ?_) (some 15) rfl rfl (by kernel_rfl) (by kernel_rfl) (by kernel_rfl) (by kernel_rfl) (fun _ _ _ h => h) (Or.inl ⟨by rfl, ?_⟩) ?_
        rotate_left
        focus (intro wS hSw; (try dsimp only at hSw); go_simp; (try with_reducible rfl); (try (first | (rw [if_pos (by omega)]; (try go_simp); (try with_reducible rfl)) | (rw [if_neg (by omega)]; (try go_simp); (try with_reducible rfl)))))
        try simp only [Act.put, zA, zB, zC]
        rw [HC1.out]
        refine wpAnyR_takeQ (i := 3) (v := ?_) (some 16) rfl rfl (by kernel_rfl) (by kernel_rfl) (by kernel_rfl) (by kernel_rfl) (fun _ _ _ h => h) (Or.inl ⟨by rfl, ?_⟩) ?_
        rotate_left
        focus (intro wS hSw; (try dsimp only at hSw); go_simp; (try with_reducible rfl); (try (first | (rw [if_pos (by omega)]; (try go_simp); (try with_reducible rfl)) | (rw [if_neg (by omega)]; (try go_simp); (try with_reducible rfl)))))
        try simp only [Act.put, zA, zB, zC]
        refine wpAnyR_takeQ (i := 4) (v := undef) (some 17) rfl rfl (by kernel_rfl) (by kernel_rfl) (by kernel_rfl) (by kernel_rfl) (fun _ _ _ h => h) (Or.inr ⟨by rfl, rfl⟩) ?_
        try simp only [Act.put, zA, zB, zC]
        refine wpAnyR_takeQ (i := 5) (v := undef) (some 18) rfl rfl (by kernel_rfl) (by kernel_rfl) (by kernel_rfl) (by kernel_rfl) (fun _ _ _ h => h) (Or.inr ⟨by rfl, rfl⟩) ?_
        try simp only [Act.put, zA, zB, zC]
        refine wpAnyR_takeQ (i := 6) (v := undef) (some 19) rfl rfl (by kernel_rfl) (by kernel_rfl) (by kernel_rfl) (by kernel_rfl) (fun _ _ _ h => h) (Or.inr ⟨by rfl, rfl⟩) ?_
        try simp only [Act.put, zA, zB, zC]
        refine wpAnyR_takeQ (i := 7) (v := undef) (some 20) rfl rfl (by kernel_rfl) (by kernel_rfl) (by kernel_rfl) (by kernel_rfl) (fun _ _ _ h => h) (Or.inr ⟨by rfl, rfl⟩) ?_
        try simp only [Act.put, zA, zB, zC]
        refine wpAnyR_takeQ (i := 8) (v := undef) (some 21) rfl rfl (by kernel_rfl) (by kernel_rfl) (by kernel_rfl) (by kernel_rfl) (fun _ _ _ h => h) (Or.inr ⟨by rfl, rfl⟩) ?_
        try simp only [Act.put, zA, zB, zC]
        refine wpAnyR_takeQ (i := 9) (v := undef) (some 22) rfl rfl (by kernel_rfl) (by kernel_rfl) (by kernel_rfl) (by kernel_rfl) (fun _ _ _ h => h) (Or.inr ⟨by rfl, rfl⟩) ?_
        try simp only [Act.put, zA, zB, zC]
        refine wpAnyR_takeQ (i := 10) (v := undef) (some 23) rfl rfl (by kernel_rfl) (by kernel_rfl) (by kernel_rfl) (by kernel_rfl) (fun _ _ _ h => h) (Or.inr ⟨by rfl, rfl⟩) ?_
        try simp only [Act.put, zA, zB, zC]
        refine wpAnyR_takeQ (i := 11) (v := undef) (some 24) rfl rfl (by kernel_rfl) (by kernel_rfl) (by kernel_rfl) (by kernel_rfl) (fun _ _ _ h => h) (Or.inr ⟨by rfl, rfl⟩) ?_
        try simp only [Act.put, zA, zB, zC]
        refine wpAnyR_takeQ (i := 12) (v := undef) (some 25) rfl rfl (by kernel_rfl) (by kernel_rfl) (by kernel_rfl) (by kernel_rfl) (fun _ _ _ h => h) (Or.inr ⟨by rfl, rfl⟩) ?_
        try simp only [Act.put, zA, zB, zC]
        refine wpAnyR_takeQ (i := 13) (v := ?_) (some 26) rfl rfl (by kernel_rfl) (by kernel_rfl) (by kernel_rfl) (by kernel_rfl) (fun _ _ _ h => h) (Or.inl ⟨by rfl, ?_⟩) ?_
        rotate_left
        focus (intro wS hSw; (try dsimp only at hSw); go_simp; (try with_reducible rfl); (try (first | (rw [if_pos (by omega)]; (try go_simp); (try with_reducible rfl)) | (rw [if_neg (by omega)]; (try go_simp); (try with_reducible rfl)))))
        try simp only [Act.put, zA, zB, zC]
        refine wpAnyR_takeQ (i := 14) (v := ?_) (some 27) rfl rfl (by kernel_rfl) (by kernel_rfl) (by kernel_rfl) (by kernel_rfl) (fun _ _ _ h => h) (Or.inl ⟨by rfl, ?_⟩) ?_
        rotate_left
        focus (intro wS hSw; (try dsimp only at hSw); go_simp; (try with_reducible rfl); (try (first | (rw [if_pos (by omega)]; (try go_simp); (try with_reducible rfl)) | (rw [if_neg (by omega)]; (try go_simp); (try with_reducible rfl)))))
        try simp only [Act.put, zA, zB, zC]
        refine wpAnyR_takeQ (i := 15) (v := undef) (some 28) rfl rfl (by kernel_rfl) (by kernel_rfl) (by kernel_rfl) (by kernel_rfl) (fun _ _ _ h => h) (Or.inr ⟨by rfl, rfl⟩) ?_
        try simp only [Act.put, zA, zB, zC]
        refine wpAnyR_takeQ (i := 16) (v := undef) (some 29) rfl rfl (by kernel_rfl) (by kernel_rfl) (by kernel_rfl) (by kernel_rfl) (fun _ _ _ h => h) (Or.inr ⟨by rfl, rfl⟩) ?_
        try simp only [Act.put, zA, zB, zC]
        refine wpAnyR_takeQ (i := 17) (v := undef) (some 30) rfl rfl (by kernel_rfl) (by kernel_rfl) (by kernel_rfl) (by kernel_rfl) (fun _ _ _ h => h) (Or.inr ⟨by rfl, rfl⟩) ?_
        try simp only [Act.put, zA, zB, zC]
        refine wpAnyR_takeQ (i := 18) (v := undef) (some 31) rfl rfl (by kernel_rfl) (by kernel_rfl) (by kernel_rfl) (by kernel_rfl) (fun _ _ _ h => h) (Or.inr ⟨by rfl, rfl⟩) ?_
        try simp only [Act.put, zA, zB, zC]
        refine wpAnyR_takeQ (i := 19) (v := undef) (some 32) rfl rfl (by kernel_rfl) (by kernel_rfl) (by kernel_rfl) (by kernel_rfl) (fun _ _ _ h => h) (Or.inr ⟨by rfl, rfl⟩) ?_
        try simp only [Act.put, zA, zB, zC]
        refine wpAnyR_takeQ (i := 20) (v := undef) (some 33) rfl rfl (by kernel_rfl) (by kernel_rfl) (by kernel_rfl) (by kernel_rfl) (fun _ _ _ h => h) (Or.inr ⟨by rfl, rfl⟩) ?_
        try simp only [Act.put, zA, zB, zC]
        refine wpAnyR_takeQ (i := 21) (v := undef) (some 34) rfl rfl (by kernel_rfl) (by kernel_rfl) (by kernel_rfl) (by kernel_rfl) (fun _ _ _ h => h) (Or.inr ⟨by rfl, rfl⟩) ?_
        try simp only [Act.put, zA, zB, zC]
        refine wpAnyR_takeQ (i := 22) (v := undef) (some 35) rfl rfl (by kernel_rfl) (by kernel_rfl) (by kernel_rfl) (by kernel_rfl) (fun _ _ _ h => h) (Or.inr ⟨by rfl, rfl⟩) ?_
        try simp only [Act.put, zA, zB, zC]
        refine wpAnyR_takeQ (i := 23) (v := undef) (some 36) rfl rfl (by kernel_rfl) (by kernel_rfl) (by kernel_rfl) (by kernel_rfl) (fun _ _ _ h => h) (Or.inr ⟨by rfl, rfl⟩) ?_
        try simp only [Act.put, zA, zB, zC]
        refine wpAnyR_takeQ (i := 24) (v := ?_) (some 37) rfl rfl (by kernel_rfl) (by kernel_rfl) (by kernel_rfl) (by kernel_rfl) (fun _ _ _ h => h) (Or.inl ⟨by rfl, ?_⟩) ?_
        rotate_left
        focus (intro wS hSw; (try dsimp only at hSw); go_simp; (try with_reducible rfl); (try (first | (rw [if_pos (by omega)]; (try go_simp); (try with_reducible rfl)) | (rw [if_neg (by omega)]; (try go_simp); (try with_reducible rfl)))))
        try simp only [Act.put, zA, zB, zC]
        refine wpAnyR_done (by kernel_rfl) ?_ _
        go_wp2_with fail
        go_roundg (T.labels.length - (k + 1))
        case measure => rw [HGK.out]; omega
        case rel => exact ⟨k + 1, by omega, by omega, by go_num, HNX.out, HB.out.drew, HR.out.drew, HG.out.drew⟩
      | false =>
        have HC1 := Lib.hid (neq_bne _ _ b1)
        cases b2 : (l.id == id) with
        | false =>
          have HNX := Lib.hid (HNX0.out (HHL.out.trans (by rw [b1, b2]; rfl)))
          have HC2 := Lib.hid b2
          clear b1 b2
          go_wp2_with fail
          refine wp_region_R [] (fun w' : World => w'.cell? ⟨w.heap.size, 2, none⟩ = some (.slice (some ⟨b, off, none⟩) T.labels.length c) ∧ w'.cell? ⟨w.heap.size + 1, 0, none⟩ = some (.int .i64 id) ∧ w'.cell? ⟨w.heap.size + 1, 1, none⟩ = some (.int .i64 unit) ∧ w'.cell? ⟨b, off + k * 5, none⟩ = some (.int .i64 l.id) ∧ w'.cell? ⟨b, off + k * 5 + 1, none⟩ = some (.int .i64 l.unit)) (by kernel_rfl) ?_
          refine wpAnyR_takeQ (i := 0) (v := ?_) (some 13) rfl rfl (by kernel_rfl) (by kernel_rfl) (by kernel_rfl) (by kernel_rfl) (fun _ _ _ h => h) (Or.inl ⟨by rfl, ?_⟩) ?_
          rotate_left
          focus (intro wS hSw; (try dsimp only at hSw); go_simp; (try with_reducible rfl); (try (first | (rw [if_pos (by omega)]; (try go_simp); (try with_reducible rfl)) | (rw [if_neg (by omega)]; (try go_simp); (try with_reducible rfl)))))
          try simp only [Act.put, zA, zB, zC]
          refine wpAnyR_take (i := 1) (v := ?_) [2, 3, 4, 5, 6, 7, 8, 9, 10, 11, 12, 13, 14, 15, 16, 17, 18, 19, 20, 21, 22, 23, 24] (some 14) rfl rfl (by kernel_rfl) (by kernel_rfl) (by kernel_rfl) (by kernel_rfl) (by kernel_rfl) (by kernel_rfl) (by kernel_rfl) (fun _ _ _ h => h) (Or.inl ⟨by rfl, ?_⟩) hS ?_
          rotate_left
          focus (intro wS hSw; (try dsimp only at hSw); go_simp; (try with_reducible rfl); (try (first | (rw [if_pos (by omega)]; (try go_simp); (try with_reducible rfl)) | (rw [if_neg (by omega)]; (try go_simp); (try with_reducible rfl)))))
          try simp only [Act.put, zA, zB, zC]
          refine wpAnyR_takeQ (i := 2) (v := ?_) (some 15) rfl rfl (by kernel_rfl) (by kernel_rfl) (by kernel_rfl) (by kernel_rfl) (fun _ _ _ h => h) (Or.inl ⟨by rfl, ?_⟩) ?_
          rotate_left
          focus (intro wS hSw; (try dsimp only at hSw); go_simp; (try with_reducible rfl); (try (first | (rw [if_pos (by omega)]; (try go_simp); (try with_reducible rfl)) | (rw [if_neg (by omega)]; (try go_simp); (try with_reducible rfl)))))
          try simp only [Act.put, zA, zB, zC]
          rw [HC1.out]
          refine wpAnyR_takeQ (i := 3) (v := ?_) (some 16) rfl rfl (by kernel_rfl) (by kernel_rfl) (by kernel_rfl) (by kernel_rfl) (fun _ _ _ h => h) (Or.inl ⟨by rfl, ?_⟩) ?_
          rotate_left
          focus (intro wS hSw; (try dsimp only at hSw); go_simp; (try with_reducible rfl); (try (first | (rw [if_pos (by omega)]; (try go_simp); (try with_reducible rfl)) | (rw [if_neg (by omega)]; (try go_simp); (try with_reducible rfl)))))
          try simp only [Act.put, zA, zB, zC]
          refine wpAnyR_takeQ (i := 4) (v := ?_) (some 17) rfl rfl (by kernel_rfl) (by kernel_rfl) (by kernel_rfl) (by kernel_rfl) (fun _ _ _ h => h) (Or.inl ⟨by rfl, ?_⟩) ?_
          rotate_left
          focus (intro wS hSw; (try dsimp only at hSw); go_simp; (try with_reducible rfl); (try (first | (rw [if_pos (by omega)]; (try go_simp); (try with_reducible rfl)) | (rw [if_neg (by omega)]; (try go_simp); (try with_reducible rfl)))))
          try simp only [Act.put, zA, zB, zC]
          refine wpAnyR_take (i := 5) (v := ?_) [7, 8, 9, 12, 13, 14, 15, 16, 17, 18, 19, 20, 21, 22, 23, 24] (some 18) rfl rfl (by kernel_rfl) (by kernel_rfl) (by kernel_rfl) (by kernel_rfl) (by kernel_rfl) (by kernel_rfl) (by kernel_rfl) (fun _ _ _ h => h) (Or.inl ⟨by rfl, ?_⟩) hS ?_
          rotate_left
          focus (intro wS hSw; (try dsimp only at hSw); go_simp; (try with_reducible rfl); (try (first | (rw [if_pos (by omega)]; (try go_simp); (try with_reducible rfl)) | (rw [if_neg (by omega)]; (try go_simp); (try with_reducible rfl)))))
          try simp only [Act.put, zA, zB, zC]
          refine wpAnyR_takeQ (i := 6) (v := ?_) (some 19) rfl rfl (by kernel_rfl) (by kernel_rfl) (by kernel_rfl) (by kernel_rfl) (fun _ _ _ h => h) (Or.inl ⟨by rfl, ?_⟩) ?_
          rotate_left
          focus (intro wS hSw; (try dsimp only at hSw); go_simp; (try with_reducible rfl); (try (first | (rw [if_pos (by omega)]; (try go_simp); (try with_reducible rfl)) | (rw [if_neg (by omega)]; (try go_simp); (try with_reducible rfl)))))
          try simp only [Act.put, zA, zB, zC]
          refine wpAnyR_takeQ (i := 7) (v := ?_) (some 20) rfl rfl (by kernel_rfl) (by kernel_rfl) (by kernel_rfl) (by kernel_rfl) (fun _ _ _ h => h) (Or.inl ⟨by rfl, ?_⟩) ?_
          rotate_left
          focus (intro wS hSw; (try dsimp only at hSw); go_simp; (try with_reducible rfl); (try (first | (rw [if_pos (by omega)]; (try go_simp); (try with_reducible rfl)) | (rw [if_neg (by omega)]; (try go_simp); (try with_reducible rfl)))))
          try simp only [Act.put, zA, zB, zC]
          refine wpAnyR_takeQ (i := 8) (v := ?_) (some 21) rfl rfl (by kernel_rfl) (by kernel_rfl) (by kernel_rfl) (by kernel_rfl) (fun _ _ _ h => h) (Or.inl ⟨by rfl, ?_⟩) ?_
          rotate_left
          focus (intro wS hSw; (try dsimp only at hSw); go_simp; (try with_reducible rfl); (try (first | (rw [if_pos (by omega)]; (try go_simp); (try with_reducible rfl)) | (rw [if_neg (by omega)]; (try go_simp); (try with_reducible rfl)))))
          try simp only [Act.put, zA, zB, zC]
          refine wpAnyR_take (i := 9) (v := ?_) [12, 13, 14, 15, 16, 17, 18, 19, 20, 21, 22, 23, 24] (some 22) rfl rfl (by kernel_rfl) (by kernel_rfl) (by kernel_rfl) (by kernel_rfl) (by kernel_rfl) (by kernel_rfl) (by kernel_rfl) (fun _ _ _ h => h) (Or.inl ⟨by rfl, ?_⟩) hS ?_
          rotate_left
          focus (intro wS hSw; (try dsimp only at hSw); go_simp; (try with_reducible rfl); (try (first | (rw [if_pos (by omega)]; (try go_simp); (try with_reducible rfl)) | (rw [if_neg (by omega)]; (try go_simp); (try with_reducible rfl)))))
          try simp only [Act.put, zA, zB, zC]
          refine wpAnyR_takeQ (i := 10) (v := ?_) (some 23) rfl rfl (by kernel_rfl) (by kernel_rfl) (by kernel_rfl) (by kernel_rfl) (fun _ _ _ h => h) (Or.inl ⟨by rfl, ?_⟩) ?_
          rotate_left
          focus (intro wS hSw; (try dsimp only at hSw); go_simp; (try with_reducible rfl); (try (first | (rw [if_pos (by omega)]; (try go_simp); (try with_reducible rfl)) | (rw [if_neg (by omega)]; (try go_simp); (try with_reducible rfl)))))
          try simp only [Act.put, zA, zB, zC]
          refine wpAnyR_take (i := 11) (v := ?_) [12, 13, 14, 15, 16, 17, 18, 19, 20, 21, 22, 23, 24] (some 24) rfl rfl (by kernel_rfl) (by kernel_rfl) (by kernel_rfl) (by kernel_rfl) (by kernel_rfl) (by kernel_rfl) (by kernel_rfl) (fun _ _ _ h => h) (Or.inl ⟨by rfl, ?_⟩) hS ?_
          rotate_left
          focus (intro wS hSw; (try dsimp only at hSw); go_simp; (try with_reducible rfl); (try (first | (rw [if_pos (by omega)]; (try go_simp); (try with_reducible rfl)) | (rw [if_neg (by omega)]; (try go_simp); (try with_reducible rfl)))))
          try simp only [Act.put, zA, zB, zC]
          refine wpAnyR_takeQ (i := 12) (v := ?_) (some 25) rfl rfl (by kernel_rfl) (by kernel_rfl) (by kernel_rfl) (by kernel_rfl) (fun _ _ _ h => h) (Or.inl ⟨by rfl, ?_⟩) ?_
          rotate_left
          focus (intro wS hSw; (try dsimp only at hSw); go_simp; (try with_reducible rfl); (try (first | (rw [if_pos (by omega)]; (try go_simp); (try with_reducible rfl)) | (rw [if_neg (by omega)]; (try go_simp); (try with_reducible rfl)))))
          try simp only [Act.put, zA, zB, zC]
          rw [HC2.out]
          refine wpAnyR_takeQ (i := 13) (v := ?_) (some 26) rfl rfl (by kernel_rfl) (by kernel_rfl) (by kernel_rfl) (by kernel_rfl) (fun _ _ _ h => h) (Or.inl ⟨by rfl, ?_⟩) ?_
          rotate_left
          focus (intro wS hSw; (try dsimp only at hSw); go_simp; (try with_reducible rfl); (try (first | (rw [if_pos (by omega)]; (try go_simp); (try with_reducible rfl)) | (rw [if_neg (by omega)]; (try go_simp); (try with_reducible rfl)))))
          try simp only [Act.put, zA, zB, zC]
          refine wpAnyR_takeQ (i := 14) (v := ?_) (some 27) rfl rfl (by kernel_rfl) (by kernel_rfl) (by kernel_rfl) (by kernel_rfl) (fun _ _ _ h => h) (Or.inl ⟨by rfl, ?_⟩) ?_
          rotate_left
          focus (intro wS hSw; (try dsimp only at hSw); go_simp; (try with_reducible rfl); (try (first | (rw [if_pos (by omega)]; (try go_simp); (try with_reducible rfl)) | (rw [if_neg (by omega)]; (try go_simp); (try with_reducible rfl)))))
          try simp only [Act.put, zA, zB, zC]
          refine wpAnyR_takeQ (i := 15) (v := undef) (some 28) rfl rfl (by kernel_rfl) (by kernel_rfl) (by kernel_rfl) (by kernel_rfl) (fun _ _ _ h => h) (Or.inr ⟨by rfl, rfl⟩) ?_
          try simp only [Act.put, zA, zB, zC]
          refine wpAnyR_takeQ (i := 16) (v := undef) (some 29) rfl rfl (by kernel_rfl) (by kernel_rfl) (by kernel_rfl) (by kernel_rfl) (fun _ _ _ h => h) (Or.inr ⟨by rfl, rfl⟩) ?_
          try simp only [Act.put, zA, zB, zC]
          refine wpAnyR_takeQ (i := 17) (v := undef) (some 30) rfl rfl (by kernel_rfl) (by kernel_rfl) (by kernel_rfl) (by kernel_rfl) (fun _ _ _ h => h) (Or.inr ⟨by rfl, rfl⟩) ?_
          try simp only [Act.put, zA, zB, zC]
          refine wpAnyR_takeQ (i := 18) (v := undef) (some 31) rfl rfl (by kernel_rfl) (by kernel_rfl) (by kernel_rfl) (by kernel_rfl) (fun _ _ _ h => h) (Or.inr ⟨by rfl, rfl⟩) ?_
          try simp only [Act.put, zA, zB, zC]
          refine wpAnyR_takeQ (i := 19) (v := undef) (some 32) rfl rfl (by kernel_rfl) (by kernel_rfl) (by kernel_rfl) (by kernel_rfl) (fun _ _ _ h => h) (Or.inr ⟨by rfl, rfl⟩) ?_
          try simp only [Act.put, zA, zB, zC]
          refine wpAnyR_takeQ (i := 20) (v := undef) (some 33) rfl rfl (by kernel_rfl) (by kernel_rfl) (by kernel_rfl) (by kernel_rfl) (fun _ _ _ h => h) (Or.inr ⟨by rfl, rfl⟩) ?_
          try simp only [Act.put, zA, zB, zC]
          refine wpAnyR_takeQ (i := 21) (v := undef) (some 34) rfl rfl (by kernel_rfl) (by kernel_rfl) (by kernel_rfl) (by kernel_rfl) (fun _ _ _ h => h) (Or.inr ⟨by rfl, rfl⟩) ?_
          try simp only [Act.put, zA, zB, zC]
          refine wpAnyR_takeQ (i := 22) (v := undef) (some 35) rfl rfl (by kernel_rfl) (by kernel_rfl) (by kernel_rfl) (by kernel_rfl) (fun _ _ _ h => h) (Or.inr ⟨by rfl, rfl⟩) ?_
          try simp only [Act.put, zA, zB, zC]
          refine wpAnyR_takeQ (i := 23) (v := undef) (some 36) rfl rfl (by kernel_rfl) (by kernel_rfl) (by kernel_rfl) (by kernel_rfl) (fun _ _ _ h => h) (Or.inr ⟨by rfl, rfl⟩) ?_
          try simp only [Act.put, zA, zB, zC]
          refine wpAnyR_takeQ (i := 24) (v := ?_) (some 37) rfl rfl (by kernel_rfl) (by kernel_rfl) (by kernel_rfl) (by kernel_rfl) (fun _ _ _ h => h) (Or.inl ⟨by rfl, ?_⟩) ?_
          rotate_left
          focus (intro wS hSw; (try dsimp only at hSw); go_simp; (try with_reducible rfl); (try (first | (rw [if_pos (by omega)]; (try go_simp); (try with_reducible rfl)) | (rw [if_neg (by omega)]; (try go_simp); (try with_reducible rfl)))))
          try simp only [Act.put, zA, zB, zC]
          refine wpAnyR_done (by kernel_rfl) ?_ _
          go_wp2_with fail
          go_roundg (T.labels.length - (k + 1))
          case measure => rw [HGK.out]; omega
          case rel => exact ⟨k + 1, by omega, by omega, by go_num, HNX.out, HB.out.drew, HR.out.drew, HG.out.drew⟩
        | true =>
          cases b3 : (l.unit == unit) with
          | false =>
            have HNX := Lib.hid (HNX0.out (HHL.out.trans (by rw [b1, b2, b3]; rfl)))
            have HC2 := Lib.hid b2
            have HC3 := Lib.hid b3
            clear b1 b2 b3
            go_wp2_with fail
            refine wp_region_R [] (fun w' : World => w'.cell? ⟨w.heap.size, 2, none⟩ = some (.slice (some ⟨b, off, none⟩) T.labels.length c) ∧ w'.cell? ⟨w.heap.size + 1, 0, none⟩ = some (.int .i64 id) ∧ w'.cell? ⟨w.heap.size + 1, 1, none⟩ = some (.int .i64 unit) ∧ w'.cell? ⟨b, off + k * 5, none⟩ = some (.int .i64 l.id) ∧ w'.cell? ⟨b, off + k * 5 + 1, none⟩ = some (.int .i64 l.unit)) (by kernel_rfl) ?_
            refine wpAnyR_takeQ (i := 0) (v := ?_) (some 13) rfl rfl (by kernel_rfl) (by kernel_rfl) (by kernel_rfl) (by kernel_rfl) (fun _ _ _ h => h) (Or.inl ⟨by rfl, ?_⟩) ?_
            rotate_left
            focus (intro wS hSw; (try dsimp only at hSw); go_simp; (try with_reducible rfl); (try (first | (rw [if_pos (by omega)]; (try go_simp); (try with_reducible rfl)) | (rw [if_neg (by omega)]; (try go_simp); (try with_reducible rfl)))))
            try simp only [Act.put, zA, zB, zC]
            refine wpAnyR_take (i := 1) (v := ?_) [2, 3, 4, 5, 6, 7, 8, 9, 10, 11, 12, 13, 14, 15, 16, 17, 18, 19, 20, 21, 22, 23, 24] (some 14) rfl rfl (by kernel_rfl) (by kernel_rfl) (by kernel_rfl) (by kernel_rfl) (by kernel_rfl) (by kernel_rfl) (by kernel_rfl) (fun _ _ _ h => h) (Or.inl ⟨by rfl, ?_⟩) hS ?_
            rotate_left
            focus (intro wS hSw; (try dsimp only at hSw); go_simp; (try with_reducible rfl); (try (first | (rw [if_pos (by omega)]; (try go_simp); (try with_reducible rfl)) | (rw [if_neg (by omega)]; (try go_simp); (try with_reducible rfl)))))
            try simp only [Act.put, zA, zB, zC]
            refine wpAnyR_takeQ (i := 2) (v := ?_) (some 15) rfl rfl (by kernel_rfl) (by kernel_rfl) (by kernel_rfl) (by kernel_rfl) (fun _ _ _ h => h) (Or.inl ⟨by rfl, ?_⟩) ?_
            rotate_left
            focus (intro wS hSw; (try dsimp only at hSw); go_simp; (try with_reducible rfl); (try (first | (rw [if_pos (by omega)]; (try go_simp); (try with_reducible rfl)) | (rw [if_neg (by omega)]; (try go_simp); (try with_reducible rfl)))))
            try simp only [Act.put, zA, zB, zC]
            rw [HC1.out]
            refine wpAnyR_takeQ (i := 3) (v := ?_) (some 16) rfl rfl (by kernel_rfl) (by kernel_rfl) (by kernel_rfl) (by kernel_rfl) (fun _ _ _ h => h) (Or.inl ⟨by rfl, ?_⟩) ?_
            rotate_left
            focus (intro wS hSw; (try dsimp only at hSw); go_simp; (try with_reducible rfl); (try (first | (rw [if_pos (by omega)]; (try go_simp); (try with_reducible rfl)) | (rw [if_neg (by omega)]; (try go_simp); (try with_reducible rfl)))))
            try simp only [Act.put, zA, zB, zC]
            refine wpAnyR_takeQ (i := 4) (v := ?_) (some 17) rfl rfl (by kernel_rfl) (by kernel_rfl) (by kernel_rfl) (by kernel_rfl) (fun _ _ _ h => h) (Or.inl ⟨by rfl, ?_⟩) ?_
            rotate_left
            focus (intro wS hSw; (try dsimp only at hSw); go_simp; (try with_reducible rfl); (try (first | (rw [if_pos (by omega)]; (try go_simp); (try with_reducible rfl)) | (rw [if_neg (by omega)]; (try go_simp); (try with_reducible rfl)))))
            try simp only [Act.put, zA, zB, zC]
            refine wpAnyR_take (i := 5) (v := ?_) [7, 8, 9, 12, 13, 14, 15, 16, 17, 18, 19, 20, 21, 22, 23, 24] (some 18) rfl rfl (by kernel_rfl) (by kernel_rfl) (by kernel_rfl) (by kernel_rfl) (by kernel_rfl) (by kernel_rfl) (by kernel_rfl) (fun _ _ _ h => h) (Or.inl ⟨by rfl, ?_⟩) hS ?_
            rotate_left
            focus (intro wS hSw; (try dsimp only at hSw); go_simp; (try with_reducible rfl); (try (first | (rw [if_pos (by omega)]; (try go_simp); (try with_reducible rfl)) | (rw [if_neg (by omega)]; (try go_simp); (try with_reducible rfl)))))
            try simp only [Act.put, zA, zB, zC]
            refine wpAnyR_takeQ (i := 6) (v := ?_) (some 19) rfl rfl (by kernel_rfl) (by kernel_rfl) (by kernel_rfl) (by kernel_rfl) (fun _ _ _ h => h) (Or.inl ⟨by rfl, ?_⟩) ?_
            rotate_left
            focus (intro wS hSw; (try dsimp only at hSw); go_simp; (try with_reducible rfl); (try (first | (rw [if_pos (by omega)]; (try go_simp); (try with_reducible rfl)) | (rw [if_neg (by omega)]; (try go_simp); (try with_reducible rfl)))))
            try simp only [Act.put, zA, zB, zC]
            refine wpAnyR_takeQ (i := 7) (v := ?_) (some 20) rfl rfl (by kernel_rfl) (by kernel_rfl) (by kernel_rfl) (by kernel_rfl) (fun _ _ _ h => h) (Or.inl ⟨by rfl, ?_⟩) ?_
            rotate_left
            focus (intro wS hSw; (try dsimp only at hSw); go_simp; (try with_reducible rfl); (try (first | (rw [if_pos (by omega)]; (try go_simp); (try with_reducible rfl)) | (rw [if_neg (by omega)]; (try go_simp); (try with_reducible rfl)))))
            try simp only [Act.put, zA, zB, zC]
            refine wpAnyR_takeQ (i := 8) (v := ?_) (some 21) rfl rfl (by kernel_rfl) (by kernel_rfl) (by kernel_rfl) (by kernel_rfl) (fun _ _ _ h => h) (Or.inl ⟨by rfl, ?_⟩) ?_
            rotate_left
            focus (intro wS hSw; (try dsimp only at hSw); go_simp; (try with_reducible rfl); (try (first | (rw [if_pos (by omega)]; (try go_simp); (try with_reducible rfl)) | (rw [if_neg (by omega)]; (try go_simp); (try with_reducible rfl)))))
            try simp only [Act.put, zA, zB, zC]
            refine wpAnyR_take (i := 9) (v := ?_) [12, 13, 14, 15, 16, 17, 18, 19, 20, 21, 22, 23, 24] (some 22) rfl rfl (by kernel_rfl) (by kernel_rfl) (by kernel_rfl) (by kernel_rfl) (by kernel_rfl) (by kernel_rfl) (by kernel_rfl) (fun _ _ _ h => h) (Or.inl ⟨by rfl, ?_⟩) hS ?_
            rotate_left
            focus (intro wS hSw; (try dsimp only at hSw); go_simp; (try with_reducible rfl); (try (first | (rw [if_pos (by omega)]; (try go_simp); (try with_reducible rfl)) | (rw [if_neg (by omega)]; (try go_simp); (try with_reducible rfl)))))
            try simp only [Act.put, zA, zB, zC]
            refine wpAnyR_takeQ (i := 10) (v := ?_) (some 23) rfl rfl (by kernel_rfl) (by kernel_rfl) (by kernel_rfl) (by kernel_rfl) (fun _ _ _ h => h) (Or.inl ⟨by rfl, ?_⟩) ?_
            rotate_left
            focus (intro wS hSw; (try dsimp only at hSw); go_simp; (try with_reducible rfl); (try (first | (rw [if_pos (by omega)]; (try go_simp); (try with_reducible rfl)) | (rw [if_neg (by omega)]; (try go_simp); (try with_reducible rfl)))))
            try simp only [Act.put, zA, zB, zC]
            refine wpAnyR_take (i := 11) (v := ?_) [12, 13, 14, 15, 16, 17, 18, 19, 20, 21, 22, 23, 24] (some 24) rfl rfl (by kernel_rfl) (by kernel_rfl) (by kernel_rfl) (by kernel_rfl) (by kernel_rfl) (by kernel_rfl) (by kernel_rfl) (fun _ _ _ h => h) (Or.inl ⟨by rfl, ?_⟩) hS ?_
            rotate_left
            focus (intro wS hSw; (try dsimp only at hSw); go_simp; (try with_reducible rfl); (try (first | (rw [if_pos (by omega)]; (try go_simp); (try with_reducible rfl)) | (rw [if_neg (by omega)]; (try go_simp); (try with_reducible rfl)))))
            try simp only [Act.put, zA, zB, zC]
            refine wpAnyR_takeQ (i := 12) (v := ?_) (some 25) rfl rfl (by kernel_rfl) (by kernel_rfl) (by kernel_rfl) (by kernel_rfl) (fun _ _ _ h => h) (Or.inl ⟨by rfl, ?_⟩) ?_
            rotate_left
            focus (intro wS hSw; (try dsimp only at hSw); go_simp; (try with_reducible rfl); (try (first | (rw [if_pos (by omega)]; (try go_simp); (try with_reducible rfl)) | (rw [if_neg (by omega)]; (try go_simp); (try with_reducible rfl)))))
            try simp only [Act.put, zA, zB, zC]
            rw [HC2.out]
            refine wpAnyR_takeQ (i := 13) (v := ?_) (some 26) rfl rfl (by kernel_rfl) (by kernel_rfl) (by kernel_rfl) (by kernel_rfl) (fun _ _ _ h => h) (Or.inl ⟨by rfl, ?_⟩) ?_
            rotate_left
            focus (intro wS hSw; (try dsimp only at hSw); go_simp; (try with_reducible rfl); (try (first | (rw [if_pos (by omega)]; (try go_simp); (try with_reducible rfl)) | (rw [if_neg (by omega)]; (try go_simp); (try with_reducible rfl)))))
            try simp only [Act.put, zA, zB, zC]
            refine wpAnyR_takeQ (i := 14) (v := ?_) (some 27) rfl rfl (by kernel_rfl) (by kernel_rfl) (by kernel_rfl) (by kernel_rfl) (fun _ _ _ h => h) (Or.inl ⟨by rfl, ?_⟩) ?_
            rotate_left
            focus (intro wS hSw; (try dsimp only at hSw); go_simp; (try with_reducible rfl); (try (first | (rw [if_pos (by omega)]; (try go_simp); (try with_reducible rfl)) | (rw [if_neg (by omega)]; (try go_simp); (try with_reducible rfl)))))
            try simp only [Act.put, zA, zB, zC]
            refine wpAnyR_takeQ (i := 15) (v := ?_) (some 28) rfl rfl (by kernel_rfl) (by kernel_rfl) (by kernel_rfl) (by kernel_rfl) (fun _ _ _ h => h) (Or.inl ⟨by rfl, ?_⟩) ?_
            rotate_left
            focus (intro wS hSw; (try dsimp only at hSw); go_simp; (try with_reducible rfl); (try (first | (rw [if_pos (by omega)]; (try go_simp); (try with_reducible rfl)) | (rw [if_neg (by omega)]; (try go_simp); (try with_reducible rfl)))))
            try simp only [Act.put, zA, zB, zC]
            refine wpAnyR_take (i := 16) (v := ?_) [18, 19, 20, 23, 24] (some 29) rfl rfl (by kernel_rfl) (by kernel_rfl) (by kernel_rfl) (by kernel_rfl) (by kernel_rfl) (by kernel_rfl) (by kernel_rfl) (fun _ _ _ h => h) (Or.inl ⟨by rfl, ?_⟩) hS ?_
            rotate_left
            focus (intro wS hSw; (try dsimp only at hSw); go_simp; (try with_reducible rfl); (try (first | (rw [if_pos (by omega)]; (try go_simp); (try with_reducible rfl)) | (rw [if_neg (by omega)]; (try go_simp); (try with_reducible rfl)))))
            try simp only [Act.put, zA, zB, zC]
            refine wpAnyR_takeQ (i := 17) (v := ?_) (some 30) rfl rfl (by kernel_rfl) (by kernel_rfl) (by kernel_rfl) (by kernel_rfl) (fun _ _ _ h => h) (Or.inl ⟨by rfl, ?_⟩) ?_
            rotate_left
            focus (intro wS hSw; (try dsimp only at hSw); go_simp; (try with_reducible rfl); (try (first | (rw [if_pos (by omega)]; (try go_simp); (try with_reducible rfl)) | (rw [if_neg (by omega)]; (try go_simp); (try with_reducible rfl)))))
            try simp only [Act.put, zA, zB, zC]
            refine wpAnyR_takeQ (i := 18) (v := ?_) (some 31) rfl rfl (by kernel_rfl) (by kernel_rfl) (by kernel_rfl) (by kernel_rfl) (fun _ _ _ h => h) (Or.inl ⟨by rfl, ?_⟩) ?_
            rotate_left
            focus (intro wS hSw; (try dsimp only at hSw); go_simp; (try with_reducible rfl); (try (first | (rw [if_pos (by omega)]; (try go_simp); (try with_reducible rfl)) | (rw [if_neg (by omega)]; (try go_simp); (try with_reducible rfl)))))
            try simp only [Act.put, zA, zB, zC]
            refine wpAnyR_takeQ (i := 19) (v := ?_) (some 32) rfl rfl (by kernel_rfl) (by kernel_rfl) (by kernel_rfl) (by kernel_rfl) (fun _ _ _ h => h) (Or.inl ⟨by rfl, ?_⟩) ?_
            rotate_left
            focus (intro wS hSw; (try dsimp only at hSw); go_simp; (try with_reducible rfl); (try (first | (rw [if_pos (by omega)]; (try go_simp); (try with_reducible rfl)) | (rw [if_neg (by omega)]; (try go_simp); (try with_reducible rfl)))))
            try simp only [Act.put, zA, zB, zC]
            refine wpAnyR_take (i := 20) (v := ?_) [23, 24] (some 33) rfl rfl (by kernel_rfl) (by kernel_rfl) (by kernel_rfl) (by kernel_rfl) (by kernel_rfl) (by kernel_rfl) (by kernel_rfl) (fun _ _ _ h => h) (Or.inl ⟨by rfl, ?_⟩) hS ?_
            rotate_left
            focus (intro wS hSw; (try dsimp only at hSw); go_simp; (try with_reducible rfl); (try (first | (rw [if_pos (by omega)]; (try go_simp); (try with_reducible rfl)) | (rw [if_neg (by omega)]; (try go_simp); (try with_reducible rfl)))))
            try simp only [Act.put, zA, zB, zC]
            refine wpAnyR_takeQ (i := 21) (v := ?_) (some 34) rfl rfl (by kernel_rfl) (by kernel_rfl) (by kernel_rfl) (by kernel_rfl) (fun _ _ _ h => h) (Or.inl ⟨by rfl, ?_⟩) ?_
            rotate_left
            focus (intro wS hSw; (try dsimp only at hSw); go_simp; (try with_reducible rfl); (try (first | (rw [if_pos (by omega)]; (try go_simp); (try with_reducible rfl)) | (rw [if_neg (by omega)]; (try go_simp); (try with_reducible rfl)))))
            try simp only [Act.put, zA, zB, zC]
            refine wpAnyR_take (i := 22) (v := ?_) [23, 24] (some 35) rfl rfl (by kernel_rfl) (by kernel_rfl) (by kernel_rfl) (by kernel_rfl) (by kernel_rfl) (by kernel_rfl) (by kernel_rfl) (fun _ _ _ h => h) (Or.inl ⟨by rfl, ?_⟩) hS ?_
            rotate_left
            focus (intro wS hSw; (try dsimp only at hSw); go_simp; (try with_reducible rfl); (try (first | (rw [if_pos (by omega)]; (try go_simp); (try with_reducible rfl)) | (rw [if_neg (by omega)]; (try go_simp); (try with_reducible rfl)))))
            try simp only [Act.put, zA, zB, zC]
            refine wpAnyR_takeQ (i := 23) (v := ?_) (some 36) rfl rfl (by kernel_rfl) (by kernel_rfl) (by kernel_rfl) (by kernel_rfl) (fun _ _ _ h => h) (Or.inl ⟨by rfl, ?_⟩) ?_
            rotate_left
            focus (intro wS hSw; (try dsimp only at hSw); go_simp; (try with_reducible rfl); (try (first | (rw [if_pos (by omega)]; (try go_simp); (try with_reducible rfl)) | (rw [if_neg (by omega)]; (try go_simp); (try with_reducible rfl)))))
            try simp only [Act.put, zA, zB, zC]
            rw [HC3.out]
            refine wpAnyR_takeQ (i := 24) (v := ?_) (some 37) rfl rfl (by kernel_rfl) (by kernel_rfl) (by kernel_rfl) (by kernel_rfl) (fun _ _ _ h => h) (Or.inl ⟨by rfl, ?_⟩) ?_
            rotate_left
            focus (intro wS hSw; (try dsimp only at hSw); go_simp; (try with_reducible rfl); (try (first | (rw [if_pos (by omega)]; (try go_simp); (try with_reducible rfl)) | (rw [if_neg (by omega)]; (try go_simp); (try with_reducible rfl)))))
            try simp only [Act.put, zA, zB, zC]
            refine wpAnyR_done (by kernel_rfl) ?_ _
            go_wp2_with fail
            go_roundg (T.labels.length - (k + 1))
            case measure => rw [HGK.out]; omega
            case rel => exact ⟨k + 1, by omega, by omega, by go_num, HNX.out, HB.out.drew, HR.out.drew, HG.out.drew⟩
          | true =>
            have HI := Lib.hid (HI0.out (HHL.out.trans (by rw [b1, b2, b3]; rfl)))
            have HC2 := Lib.hid b2
            have HC3 := Lib.hid b3
            clear b1 b2 b3
            go_wp2_with fail
            refine wp_region_R [] (fun w' : World => w'.cell? ⟨w.heap.size, 2, none⟩ = some (.slice (some ⟨b, off, none⟩) T.labels.length c) ∧ w'.cell? ⟨w.heap.size + 1, 0, none⟩ = some (.int .i64 id) ∧ w'.cell? ⟨w.heap.size + 1, 1, none⟩ = some (.int .i64 unit) ∧ w'.cell? ⟨b, off + k * 5, none⟩ = some (.int .i64 l.id) ∧ w'.cell? ⟨b, off + k * 5 + 1, none⟩ = some (.int .i64 l.unit)) (by kernel_rfl) ?_
            refine wpAnyR_takeQ (i := 0) (v := ?_) (some 13) rfl rfl (by kernel_rfl) (by kernel_rfl) (by kernel_rfl) (by kernel_rfl) (fun _ _ _ h => h) (Or.inl ⟨by rfl, ?_⟩) ?_
            rotate_left
            focus (intro wS hSw; (try dsimp only at hSw); go_simp; (try with_reducible rfl); (try (first | (rw [if_pos (by omega)]; (try go_simp); (try with_reducible rfl)) | (rw [if_neg (by omega)]; (try go_simp); (try with_reducible rfl)))))
            try simp only [Act.put, zA, zB, zC]
            refine wpAnyR_take (i := 1) (v := ?_) [2, 3, 4, 5, 6, 7, 8, 9, 10, 11, 12, 13, 14, 15, 16, 17, 18, 19, 20, 21, 22, 23, 24] (some 14) rfl rfl (by kernel_rfl) (by kernel_rfl) (by kernel_rfl) (by kernel_rfl) (by kernel_rfl) (by kernel_rfl) (by kernel_rfl) (fun _ _ _ h => h) (Or.inl ⟨by rfl, ?_⟩) hS ?_
            rotate_left
            focus (intro wS hSw; (try dsimp only at hSw); go_simp; (try with_reducible rfl); (try (first | (rw [if_pos (by omega)]; (try go_simp); (try with_reducible rfl)) | (rw [if_neg (by omega)]; (try go_simp); (try with_reducible rfl)))))
            try simp only [Act.put, zA, zB, zC]
            refine wpAnyR_takeQ (i := 2) (v := ?_) (some 15) rfl rfl (by kernel_rfl) (by kernel_rfl) (by kernel_rfl) (by kernel_rfl) (fun _ _ _ h => h) (Or.inl ⟨by rfl, ?_⟩) ?_
            rotate_left
            focus (intro wS hSw; (try dsimp only at hSw); go_simp; (try with_reducible rfl); (try (first | (rw [if_pos (by omega)]; (try go_simp); (try with_reducible rfl)) | (rw [if_neg (by omega)]; (try go_simp); (try with_reducible rfl)))))
            try simp only [Act.put, zA, zB, zC]
            rw [HC1.out]
            refine wpAnyR_takeQ (i := 3) (v := ?_) (some 16) rfl rfl (by kernel_rfl) (by kernel_rfl) (by kernel_rfl) (by kernel_rfl) (fun _ _ _ h => h) (Or.inl ⟨by rfl, ?_⟩) ?_
            rotate_left
            focus (intro wS hSw; (try dsimp only at hSw); go_simp; (try with_reducible rfl); (try (first | (rw [if_pos (by omega)]; (try go_simp); (try with_reducible rfl)) | (rw [if_neg (by omega)]; (try go_simp); (try with_reducible rfl)))))
            try simp only [Act.put, zA, zB, zC]
            refine wpAnyR_takeQ (i := 4) (v := ?_) (some 17) rfl rfl (by kernel_rfl) (by kernel_rfl) (by kernel_rfl) (by kernel_rfl) (fun _ _ _ h => h) (Or.inl ⟨by rfl, ?_⟩) ?_
            rotate_left
            focus (intro wS hSw; (try dsimp only at hSw); go_simp; (try with_reducible rfl); (try (first | (rw [if_pos (by omega)]; (try go_simp); (try with_reducible rfl)) | (rw [if_neg (by omega)]; (try go_simp); (try with_reducible rfl)))))
            try simp only [Act.put, zA, zB, zC]
            refine wpAnyR_take (i := 5) (v := ?_) [7, 8, 9, 12, 13, 14, 15, 16, 17, 18, 19, 20, 21, 22, 23, 24] (some 18) rfl rfl (by kernel_rfl) (by kernel_rfl) (by kernel_rfl) (by kernel_rfl) (by kernel_rfl) (by kernel_rfl) (by kernel_rfl) (fun _ _ _ h => h) (Or.inl ⟨by rfl, ?_⟩) hS ?_
            rotate_left
            focus (intro wS hSw; (try dsimp only at hSw); go_simp; (try with_reducible rfl); (try (first | (rw [if_pos (by omega)]; (try go_simp); (try with_reducible rfl)) | (rw [if_neg (by omega)]; (try go_simp); (try with_reducible rfl)))))
            try simp only [Act.put, zA, zB, zC]
            refine wpAnyR_takeQ (i := 6) (v := ?_) (some 19) rfl rfl (by kernel_rfl) (by kernel_rfl) (by kernel_rfl) (by kernel_rfl) (fun _ _ _ h => h) (Or.inl ⟨by rfl, ?_⟩) ?_
            rotate_left
            focus (intro wS hSw; (try dsimp only at hSw); go_simp; (try with_reducible rfl); (try (first | (rw [if_pos (by omega)]; (try go_simp); (try with_reducible rfl)) | (rw [if_neg (by omega)]; (try go_simp); (try with_reducible rfl)))))
            try simp only [Act.put, zA, zB, zC]
            refine wpAnyR_takeQ (i := 7) (v := ?_) (some 20) rfl rfl (by kernel_rfl) (by kernel_rfl) (by kernel_rfl) (by kernel_rfl) (fun _ _ _ h => h) (Or.inl ⟨by rfl, ?_⟩) ?_
            rotate_left
            focus (intro wS hSw; (try dsimp only at hSw); go_simp; (try with_reducible rfl); (try (first | (rw [if_pos (by omega)]; (try go_simp); (try with_reducible rfl)) | (rw [if_neg (by omega)]; (try go_simp); (try with_reducible rfl)))))
            try simp only [Act.put, zA, zB, zC]
            refine wpAnyR_takeQ (i := 8) (v := ?_) (some 21) rfl rfl (by kernel_rfl) (by kernel_rfl) (by kernel_rfl) (by kernel_rfl) (fun _ _ _ h => h) (Or.inl ⟨by rfl, ?_⟩) ?_
            rotate_left
            focus (intro wS hSw; (try dsimp only at hSw); go_simp; (try with_reducible rfl); (try (first | (rw [if_pos (by omega)]; (try go_simp); (try with_reducible rfl)) | (rw [if_neg (by omega)]; (try go_simp); (try with_reducible rfl)))))
            try simp only [Act.put, zA, zB, zC]
            refine wpAnyR_take (i := 9) (v := ?_) [12, 13, 14, 15, 16, 17, 18, 19, 20, 21, 22, 23, 24] (some 22) rfl rfl (by kernel_rfl) (by kernel_rfl) (by kernel_rfl) (by kernel_rfl) (by kernel_rfl) (by kernel_rfl) (by kernel_rfl) (fun _ _ _ h => h) (Or.inl ⟨by rfl, ?_⟩) hS ?_
            rotate_left
            focus (intro wS hSw; (try dsimp only at hSw); go_simp; (try with_reducible rfl); (try (first | (rw [if_pos (by omega)]; (try go_simp); (try with_reducible rfl)) | (rw [if_neg (by omega)]; (try go_simp); (try with_reducible rfl)))))
            try simp only [Act.put, zA, zB, zC]
            refine wpAnyR_takeQ (i := 10) (v := ?_) (some 23) rfl rfl (by kernel_rfl) (by kernel_rfl) (by kernel_rfl) (by kernel_rfl) (fun _ _ _ h => h) (Or.inl ⟨by rfl, ?_⟩) ?_
            rotate_left
            focus (intro wS hSw; (try dsimp only at hSw); go_simp; (try with_reducible rfl); (try (first | (rw [if_pos (by omega)]; (try go_simp); (try with_reducible rfl)) | (rw [if_neg (by omega)]; (try go_simp); (try with_reducible rfl)))))
            try simp only [Act.put, zA, zB, zC]
            refine wpAnyR_take (i := 11) (v := ?_) [12, 13, 14, 15, 16, 17, 18, 19, 20, 21, 22, 23, 24] (some 24) rfl rfl (by kernel_rfl) (by kernel_rfl) (by kernel_rfl) (by kernel_rfl) (by kernel_rfl) (by kernel_rfl) (by kernel_rfl) (fun _ _ _ h => h) (Or.inl ⟨by rfl, ?_⟩) hS ?_
            rotate_left
            focus (intro wS hSw; (try dsimp only at hSw); go_simp; (try with_reducible rfl); (try (first | (rw [if_pos (by omega)]; (try go_simp); (try with_reducible rfl)) | (rw [if_neg (by omega)]; (try go_simp); (try with_reducible rfl)))))
            try simp only [Act.put, zA, zB, zC]
            refine wpAnyR_takeQ (i := 12) (v := ?_) (some 25) rfl rfl (by kernel_rfl) (by kernel_rfl) (by kernel_rfl) (by kernel_rfl) (fun _ _ _ h => h) (Or.inl ⟨by rfl, ?_⟩) ?_
            rotate_left
            focus (intro wS hSw; (try dsimp only at hSw); go_simp; (try with_reducible rfl); (try (first | (rw [if_pos (by omega)]; (try go_simp); (try with_reducible rfl)) | (rw [if_neg (by omega)]; (try go_simp); (try with_reducible rfl)))))
            try simp only [Act.put, zA, zB, zC]
            rw [HC2.out]
            refine wpAnyR_takeQ (i := 13) (v := ?_) (some 26) rfl rfl (by kernel_rfl) (by kernel_rfl) (by kernel_rfl) (by kernel_rfl) (fun _ _ _ h => h) (Or.inl ⟨by rfl, ?_⟩) ?_
            rotate_left
            focus (intro wS hSw; (try dsimp only at hSw); go_simp; (try with_reducible rfl); (try (first | (rw [if_pos (by omega)]; (try go_simp); (try with_reducible rfl)) | (rw [if_neg (by omega)]; (try go_simp); (try with_reducible rfl)))))
            try simp only [Act.put, zA, zB, zC]
            refine wpAnyR_takeQ (i := 14) (v := ?_) (some 27) rfl rfl (by kernel_rfl) (by kernel_rfl) (by kernel_rfl) (by kernel_rfl) (fun _ _ _ h => h) (Or.inl ⟨by rfl, ?_⟩) ?_
            rotate_left
            focus (intro wS hSw; (try dsimp only at hSw); go_simp; (try with_reducible rfl); (try (first | (rw [if_pos (by omega)]; (try go_simp); (try with_reducible rfl)) | (rw [if_neg (by omega)]; (try go_simp); (try with_reducible rfl)))))
            try simp only [Act.put, zA, zB, zC]
            refine wpAnyR_takeQ (i := 15) (v := ?_) (some 28) rfl rfl (by kernel_rfl) (by kernel_rfl) (by kernel_rfl) (by kernel_rfl) (fun _ _ _ h => h) (Or.inl ⟨by rfl, ?_⟩) ?_
            rotate_left
            focus (intro wS hSw; (try dsimp only at hSw); go_simp; (try with_reducible rfl); (try (first | (rw [if_pos (by omega)]; (try go_simp); (try with_reducible rfl)) | (rw [if_neg (by omega)]; (try go_simp); (try with_reducible rfl)))))
            try simp only [Act.put, zA, zB, zC]
            refine wpAnyR_take (i := 16) (v := ?_) [18, 19, 20, 23, 24] (some 29) rfl rfl (by kernel_rfl) (by kernel_rfl) (by kernel_rfl) (by kernel_rfl) (by kernel_rfl) (by kernel_rfl) (by kernel_rfl) (fun _ _ _ h => h) (Or.inl ⟨by rfl, ?_⟩) hS ?_
            rotate_left
            focus (intro wS hSw; (try dsimp only at hSw); go_simp; (try with_reducible rfl); (try (first | (rw [if_pos (by omega)]; (try go_simp); (try with_reducible rfl)) | (rw [if_neg (by omega)]; (try go_simp); (try with_reducible rfl)))))
            try simp only [Act.put, zA, zB, zC]
            refine wpAnyR_takeQ (i := 17) (v := ?_) (some 30) rfl rfl (by kernel_rfl) (by kernel_rfl) (by kernel_rfl) (by kernel_rfl) (fun _ _ _ h => h) (Or.inl ⟨by rfl, ?_⟩) ?_
            rotate_left
            focus (intro wS hSw; (try dsimp only at hSw); go_simp; (try with_reducible rfl); (try (first | (rw [if_pos (by omega)]; (try go_simp); (try with_reducible rfl)) | (rw [if_neg (by omega)]; (try go_simp); (try with_reducible rfl)))))
            try simp only [Act.put, zA, zB, zC]
            refine wpAnyR_takeQ (i := 18) (v := ?_) (some 31) rfl rfl (by kernel_rfl) (by kernel_rfl) (by kernel_rfl) (by kernel_rfl) (fun _ _ _ h => h) (Or.inl ⟨by rfl, ?_⟩) ?_
            rotate_left
            focus (intro wS hSw; (try dsimp only at hSw); go_simp; (try with_reducible rfl); (try (first | (rw [if_pos (by omega)]; (try go_simp); (try with_reducible rfl)) | (rw [if_neg (by omega)]; (try go_simp); (try with_reducible rfl)))))
            try simp only [Act.put, zA, zB, zC]
            refine wpAnyR_takeQ (i := 19) (v := ?_) (some 32) rfl rfl (by kernel_rfl) (by kernel_rfl) (by kernel_rfl) (by kernel_rfl) (fun _ _ _ h => h) (Or.inl ⟨by rfl, ?_⟩) ?_
            rotate_left
            focus (intro wS hSw; (try dsimp only at hSw); go_simp; (try with_reducible rfl); (try (first | (rw [if_pos (by omega)]; (try go_simp); (try with_reducible rfl)) | (rw [if_neg (by omega)]; (try go_simp); (try with_reducible rfl)))))
            try simp only [Act.put, zA, zB, zC]
            refine wpAnyR_take (i := 20) (v := ?_) [23, 24] (some 33) rfl rfl (by kernel_rfl) (by kernel_rfl) (by kernel_rfl) (by kernel_rfl) (by kernel_rfl) (by kernel_rfl) (by kernel_rfl) (fun _ _ _ h => h) (Or.inl ⟨by rfl, ?_⟩) hS ?_
            rotate_left
            focus (intro wS hSw; (try dsimp only at hSw); go_simp; (try with_reducible rfl); (try (first | (rw [if_pos (by omega)]; (try go_simp); (try with_reducible rfl)) | (rw [if_neg (by omega)]; (try go_simp); (try with_reducible rfl)))))
            try simp only [Act.put, zA, zB, zC]
            refine wpAnyR_takeQ (i := 21) (v := ?_) (some 34) rfl rfl (by kernel_rfl) (by kernel_rfl) (by kernel_rfl) (by kernel_rfl) (fun _ _ _ h => h) (Or.inl ⟨by rfl, ?_⟩) ?_
            rotate_left
            focus (intro wS hSw; (try dsimp only at hSw); go_simp; (try with_reducible rfl); (try (first | (rw [if_pos (by omega)]; (try go_simp); (try with_reducible rfl)) | (rw [if_neg (by omega)]; (try go_simp); (try with_reducible rfl)))))
            try simp only [Act.put, zA, zB, zC]
            refine wpAnyR_take (i := 22) (v := ?_) [23, 24] (some 35) rfl rfl (by kernel_rfl) (by kernel_rfl) (by kernel_rfl) (by kernel_rfl) (by kernel_rfl) (by kernel_rfl) (by kernel_rfl) (fun _ _ _ h => h) (Or.inl ⟨by rfl, ?_⟩) hS ?_
            rotate_left
            focus (intro wS hSw; (try dsimp only at hSw); go_simp; (try with_reducible rfl); (try (first | (rw [if_pos (by omega)]; (try go_simp); (try with_reducible rfl)) | (rw [if_neg (by omega)]; (try go_simp); (try with_reducible rfl)))))
            try simp only [Act.put, zA, zB, zC]
            refine wpAnyR_takeQ (i := 23) (v := ?_) (some 36) rfl rfl (by kernel_rfl) (by kernel_rfl) (by kernel_rfl) (by kernel_rfl) (fun _ _ _ h => h) (Or.inl ⟨by rfl, ?_⟩) ?_
            rotate_left
            focus (intro wS hSw; (try dsimp only at hSw); go_simp; (try with_reducible rfl); (try (first | (rw [if_pos (by omega)]; (try go_simp); (try with_reducible rfl)) | (rw [if_neg (by omega)]; (try go_simp); (try with_reducible rfl)))))
            try simp only [Act.put, zA, zB, zC]
            rw [HC3.out]
            refine wpAnyR_takeQ (i := 24) (v := ?_) (some 37) rfl rfl (by kernel_rfl) (by kernel_rfl) (by kernel_rfl) (by kernel_rfl) (fun _ _ _ h => h) (Or.inl ⟨by rfl, ?_⟩) ?_
            rotate_left
            focus (intro wS hSw; (try dsimp only at hSw); go_simp; (try with_reducible rfl); (try (first | (rw [if_pos (by omega)]; (try go_simp); (try with_reducible rfl)) | (rw [if_neg (by omega)]; (try go_simp); (try with_reducible rfl)))))
            try simp only [Act.put, zA, zB, zC]
            refine wpAnyR_done (by kernel_rfl) ?_ _
            go_wp2_with fail
            go_ret
            exact ⟨ret_int (by rw [HI.out]), by have hg := HG.out; (repeat' first | (with_reducible exact Grew.refl _) | (with_reducible assumption) | (with_reducible refine Grew.alloc ?_ _) | (with_reducible refine Grew.drew ?_) | (with_reducible refine Grew.drewN ?_ _) | (with_reducible refine Grew.setRow ?_ (by first | (simp; done) | (simp; omega) | omega) _) | (with_reducible refine Grew.setCell ?_ (by first | (simp; done) | (simp; omega) | omega) _) | ((with_reducible apply Grew.trans); rotate_left; (with_reducible assumption)) | ((with_reducible apply Grew.turn); rotate_left; (with_reducible assumption); (focus (intro i hi; first | omega | (simp at hi; omega)))) | fail)⟩
    · have HI := Lib.hid (HIT.out.trans (idxP_none _ _ (fun j hj => HA.out j hj (by omega))))
      clear hb hr hg
      go_wp2_with fail
      go_ret
      exact ⟨ret_int (by rw [HI.out]), HG.out⟩
set_option maxRecDepth 100000 in
set_option maxHeartbeats 4000000 in
theorem rfree_tab (h : TabAt w A c xs T) (hs : SmallT T) (n : Nat) (hn : n = T.labels.length) (kf : List (Int × Int)) (hkf : freeT T = kf) :
    Calls Tryz.prog 18 #[.agg #[.string T.name, .int .i64 T.tracks, .slice A n c]] w fun e w' => ∃ A c, e = .returned (.slice A kf.length c) ∧ RunsAt w' w'.heap.size A kf ∧ Grew w w' := by
  subst hn; subst hkf
  have hg0 := (Grew.refl w).alloc (.cells #[.string T.name, .int .i64 T.tracks, .slice A T.labels.length c] 24)
  have HB0 := Lib.hid (Blk.new w 24 #[.string T.name, .int .i64 T.tracks, .slice A T.labels.length c] rfl)
  have HV := Lib.hid (rvalid_tab A c xs T _ (h.hold hg0) hs _ rfl)
  have HTB := Lib.hid h
  have HG0 := Lib.hid hg0
  have htr0 := h.tr0
  have htr1 := h.tr1
  clear h hs hg0
  cases hv : validT T with
  | false =>
    have HE := Lib.hid (show freeT T = [] from by unfold freeT; rw [hv]; rfl)
    have HVF := Lib.hid hv
    clear hv
    go_enter Tryz.func18, Tryz.ntmps18
    go_wp2_with fail
    refine HV.out.mono ?_
    rintro e w1 ⟨rfl, g1⟩
    rw [HVF.out]
    go_wp2_with fail
    go_ret
    exact ⟨none, 0, by rw [HE.out]; rfl, by rw [HE.out]; exact nil_runs _, HG0.out.trans g1⟩
  | true =>
    obtain ⟨hn31, hx496, hall⟩ := validT_facts T hv
    have HFR := Lib.hid (show freeS (ttS T.tracks) T.tracks (extsL T.labels) = freeT T from by unfold freeT; rw [if_pos hv])
    have HVF := Lib.hid hv
    have HU := Lib.hid (fun w1 (hg : Grew w w1) => used_tab A c xs T w1 (HTB.out.hold hg) ⟨by omega, fun l hl => (hall l hl).1⟩)
    clear hv hall
    go_enter Tryz.func18, Tryz.ntmps18
    go_wp2_with fail
    refine HV.out.mono ?_
    rintro e w1 ⟨rfl, g1⟩
    rw [HVF.out]
    have hb1 := HB0.out.grew g1
    have HG1 := Lib.hid (HG0.out.trans g1)
    have HB1 := Lib.hid hb1
    have hS : (fun w' : World => w'.cell? ⟨w.heap.size, 0, none⟩ = some (.string T.name) ∧ w'.cell? ⟨w.heap.size, 1, none⟩ = some (.int .i64 T.tracks) ∧ w'.cell? ⟨w.heap.size, 2, none⟩ = some (.slice A T.labels.length c)) w1.drew := ⟨hb1.drew.cell 0, hb1.drew.cell 1, hb1.drew.cell 2⟩
    clear g1 hb1
    go_wp2_with fail
    refine wp_region_R [] (fun w' : World => w'.cell? ⟨w.heap.size, 0, none⟩ = some (.string T.name) ∧ w'.cell? ⟨w.heap.size, 1, none⟩ = some (.int .i64 T.tracks) ∧ w'.cell? ⟨w.heap.size, 2, none⟩ = some (.slice A T.labels.length c)) (by kernel_rfl) ?_
    refine wpAnyR_takeQ (i := 0) (v := ?_) (some 6) rfl rfl (by kernel_rfl) (by kernel_rfl) (by kernel_rfl) (by kernel_rfl) (fun _ _ _ h => h) (Or.inl ⟨by rfl, ?_⟩) ?_
    rotate_left
    focus (intro wS hSw; (try dsimp only at hSw); go_simp; (try with_reducible rfl); (try (first | (rw [if_pos (by omega)]; (try go_simp); (try with_reducible rfl)) | (rw [if_neg (by omega)]; (try go_simp); (try with_reducible rfl)))))
    try simp only [Act.put, zA, zB, zC]
    refine wpAnyR_take (i := 1) (v := ?_) [2, 6, 7, 8] (some 7) rfl rfl (by kernel_rfl) (by kernel_rfl) (by kernel_rfl) (by kernel_rfl) (by kernel_rfl) (by kernel_rfl) (by kernel_rfl) (fun _ _ _ h => h) (Or.inl ⟨by rfl, ?_⟩) hS ?_
    rotate_left
    focus (intro wS hSw; (try dsimp only at hSw); go_simp; (try with_reducible rfl); (try (first | (rw [if_pos (by omega)]; (try go_simp); (try with_reducible rfl)) | (rw [if_neg (by omega)]; (try go_simp); (try with_reducible rfl)))))
    try simp only [Act.put, zA, zB, zC]
    refine wpAnyR_takeQ (i := 3) (v := ?_) (some 9) rfl rfl (by kernel_rfl) (by kernel_rfl) (by kernel_rfl) (by kernel_rfl) (fun _ _ _ h => h) (Or.inl ⟨by rfl, ?_⟩) ?_
    rotate_left
    focus (intro wS hSw; (try dsimp only at hSw); go_simp; (try with_reducible rfl); (try (first | (rw [if_pos (by omega)]; (try go_simp); (try with_reducible rfl)) | (rw [if_neg (by omega)]; (try go_simp); (try with_reducible rfl)))))
    try simp only [Act.put, zA, zB, zC]
    refine wpAnyR_take (i := 4) (v := ?_) [7, 8] (some 10) rfl rfl (by kernel_rfl) (by kernel_rfl) (by kernel_rfl) (by kernel_rfl) (by kernel_rfl) (by kernel_rfl) (by kernel_rfl) (fun _ _ _ h => h) (Or.inl ⟨by rfl, ?_⟩) hS ?_
    rotate_left
    focus (intro wS hSw; (try dsimp only at hSw); go_simp; (try with_reducible rfl); (try (first | (rw [if_pos (by omega)]; (try go_simp); (try with_reducible rfl)) | (rw [if_neg (by omega)]; (try go_simp); (try with_reducible rfl)))))
    try simp only [Act.put, zA, zB, zC]
    refine wpAnyR_take (i := 5) (v := ?_) [6, 7, 8] (some 11) rfl rfl (by kernel_rfl) (by kernel_rfl) (by kernel_rfl) (by kernel_rfl) (by kernel_rfl) (by kernel_rfl) (by kernel_rfl) (fun _ _ _ h => h) (Or.inl ⟨by rfl, ?_⟩) hS ?_
    rotate_left
    focus (intro wS hSw; (try dsimp only at hSw); go_simp; (try with_reducible rfl); (try (first | (rw [if_pos (by omega)]; (try go_simp); (try with_reducible rfl)) | (rw [if_neg (by omega)]; (try go_simp); (try with_reducible rfl)))))
    try simp only [Act.put, zA, zB, zC]
    refine wpAnyR_n1 (i := 2) rfl (by kernel_rfl) ?_
    intro K' hK
    rw [if_pos (by rfl)]
    simp only [List.getElem_toArray, List.getElem_cons_succ, List.getElem_cons_zero]
    go_wp2_with fail
    refine (rtable_any _ _).mono ?_
    rintro e w8 ⟨rfl, rfl⟩
    go_wp2_with fail
    refine hK.out _ _ (.inr (fun h => h)) ?_
    clear hK
    refine wpAnyR_n1 (i := 6) rfl (by kernel_rfl) ?_
    intro K' hK
    rw [if_pos (by rfl)]
    simp only [List.getElem_toArray, List.getElem_cons_succ, List.getElem_cons_zero]
    go_wp2_with fail
    refine (HU.out _ HG1.out.drew).mono ?_
    rintro e w9 ⟨A9, c9, rfl, hr9, g9⟩
    have HF := Lib.hid (rfree_val (A := A9) (c := c9) (w := w9) rfl (by omega) hr9 (ttS T.tracks) T.tracks (ttS_i64 _).1 (ttS_i64 _).2 htr0 htr1 _ HFR.out)
    clear hr9
    go_wp2_with fail
    refine hK.out _ _ (.inr (fun h => ⟨(HB1.out.drew.grew g9).cell 0, (HB1.out.drew.grew g9).cell 1, (HB1.out.drew.grew g9).cell 2⟩)) ?_
    clear hK hS
    refine wpAnyR_n1 (i := 7) rfl (by kernel_rfl) ?_
    intro K' hK
    rw [if_pos (by rfl)]
    simp only [List.getElem_toArray, List.getElem_cons_succ, List.getElem_cons_zero]
    go_wp2_with fail
    refine HF.out.mono ?_
    rintro e w10 ⟨A10, c10, rfl, hr10, g10⟩
    have HR10 := Lib.hid hr10
    clear hr10
    go_wp2_with fail
    refine hK.out _ _ (.inr (fun h => ⟨((HB1.out.drew.grew g9).grew g10).cell 0, ((HB1.out.drew.grew g9).grew g10).cell 1, ((HB1.out.drew.grew g9).grew g10).cell 2⟩)) ?_
    clear hK
    refine wpAnyR_takeQ (i := 8) (v := ?_) (some 2) rfl rfl (by kernel_rfl) (by kernel_rfl) (by kernel_rfl) (by kernel_rfl) (fun _ _ _ h => h) (Or.inl ⟨by rfl, ?_⟩) ?_
    rotate_left
    focus (intro wS hSw; (try dsimp only at hSw); go_simp; (try with_reducible rfl); (try (first | (rw [if_pos (by omega)]; (try go_simp); (try with_reducible rfl)) | (rw [if_neg (by omega)]; (try go_simp); (try with_reducible rfl)))))
    try simp only [Act.put, zA, zB, zC]
    refine wpAnyR_done (by kernel_rfl) ?_ _
    go_wp2_with fail
    go_ret
    exact ⟨A10, c10, rfl, HR10.out, (HG1.out.drew.trans g9).trans g10⟩
end
end Go.Proofs.YtnlaogneceanoaaGreat
namespace Go.Proofs.YtnlaogneceanoaaGreat
set_option linter.unusedVariables false
set_option linter.unusedSimpArgs false
set_option linter.unusedSectionVars false
open Go.RowKit
/-- Runs in a slice that is newer than w. -/
def NewRuns (w w' : World) (A : Option Addr) (c : Nat) (k : List (Int × Int)) : Prop := RunsAt w' w'.heap.size A k ∧ k.length ≤ c ∧ c ≤ 9223372036854775807 ∧ ∀ b off, A = some ⟨b, off, none⟩ → w.heap.size ≤ b
theorem NewRuns.nil (w w' : World) : NewRuns w w' none 0 [] := ⟨nil_runs w', Nat.le_refl _, by omega, fun b off e => by cases e⟩
theorem NewRuns.of_own {w w' : World} {v : Value} {l : List (Nat × Nat)} {k : List (Int × Int)} (h : OwnL w' w.heap.size 65 2 v (l.map rowN)) (hb : ∀ r ∈ l, r.1 + r.2 ≤ 128) (hk : ints l = k) : ∃ A c, v = .slice A k.length c ∧ NewRuns w w' A c k := by
  obtain ⟨A, c, hv, hr, h1, h2, h3⟩ := own_runs2 h (fun r hr => Nat.le_trans (hb r hr) (by omega))
  subst hk
  exact ⟨A, c, by rw [ints_len]; exact hv, hr, by rw [ints_len]; exact h1, h2, fun b off e => (h3 b off e).1⟩
section
variable {A : Option Addr} {c m : Nat} {l : List (Int × Int)} {w : World}
theorem extend_new {A2 : Option Addr} {c2 m2 : Nat} {l2 : List (Int × Int)} (hn1 : m = l.length) (hn2 : m2 = l2.length) (hl1 : l.length ≤ 1000) (hl2 : l2.length ≤ 1000000) (hr1 : RunsAt w w.heap.size A l) (hr2 : RunsAt w w.heap.size A2 l2) (n : Int) (n0 : -9223372036854775808 ≤ n) (n1 : n ≤ 9223372036854775807) (k : List (Int × Int)) (er : Int) (hk : ints (extS l l2 n).1 = k) (he : (extS l l2 n).2 = er) :
    Calls Tryz.prog 116 #[.slice A m c, .slice A2 m2 c2, .int .i64 n] w fun e w' => ∃ A c, e = .returned (.tuple #[.slice A k.length c, .int .i64 er]) ∧ NewRuns w w' A c k ∧ Grew w w' := by
  subst hn1; subst hn2; subst he
  refine (extend_any A A2 c c2 l l2 w w.heap.size (Nat.le_refl _) hl1 hl2 hr1 hr2 n n0 n1).mono ?_
  rintro e w1 ⟨v, rfl, hown, g1⟩
  obtain ⟨A', c', hv, hr'⟩ := NewRuns.of_own hown (extS_bd _ _ _) hk
  exact ⟨A', c', by rw [hv], hr', g1⟩
theorem alloc_new (hn : m = l.length) (hl : l.length ≤ 1000000) (hr : RunsAt w w.heap.size A l) (n : Int) (n0 : -9223372036854775808 ≤ n) (n1 : n ≤ 9223372036854775807) (most : Int) (k : List (Int × Int)) (er : Int) (hk : ints (allocS (memS l) n most).1 = k) (he : (allocS (memS l) n most).2 = er) :
    Calls Tryz.prog 88 #[.slice A m c, .int .i64 n, .int .i64 most] w fun e w' => ∃ A c, e = .returned (.tuple #[.slice A k.length c, .int .i64 er]) ∧ NewRuns w w' A c k ∧ Grew w w' := by
  subst hn; subst he
  refine (alloc_any A c l w w.heap.size (Nat.le_refl _) hl hr n n0 n1 most).mono ?_
  rintro e w1 ⟨v, rfl, hown, g1⟩
  obtain ⟨A', c', hv, hr'⟩ := NewRuns.of_own hown (alloc_bd _ _ _) hk
  exact ⟨A', c', by rw [hv], hr', g1⟩
theorem NewRuns.hold {w w1 w2 : World} {k : List (Int × Int)} (h : NewRuns w w1 A c k) (hg : Grew w1 w2) : NewRuns w w2 A c k := ⟨h.1.hold hg, h.2⟩
set_option maxRecDepth 100000 in
set_option maxHeartbeats 4000000 in
theorem release_new (hn : m = l.length) (hl : l.length ≤ 1000) (hr : RunsAt w w.heap.size A l) (keep : Int) (n0 : -9223372036854775808 ≤ keep) (n1 : keep ≤ 9223372036854775807) (ka : List (Int × Int)) (er : Int) (ha : relA l keep = ka) (he : relE l keep = er) :
    Calls Tryz.prog 118 #[.slice A m c, .int .i64 keep] w fun e w' => ∃ A1 c1 A2 n2 c2, e = .returned (.tuple #[.slice A1 ka.length c1, .slice A2 n2 c2, .int .i64 er]) ∧ NewRuns w w' A1 c1 ka ∧ Grew w w' := by
  subst hn
  have hG := Grew.refl w
  have hsl := sizeS_le l
  by_cases h1 : keep < 1
  · have e1 : ka = [] := by rw [← ha]; unfold relA; rw [if_pos (.inl h1)]
    have e3 : er = 2 := by rw [← he]; unfold relE; rw [if_pos (.inl h1)]
    clear ha he
    subst e1; subst e3
    go_enter Tryz.func118, Tryz.ntmps118
    go_wp2_with fail
    go_returns
    exact ⟨none, 0, none, 0, 0, rfl, NewRuns.nil _ _, hG⟩
  by_cases h2 : (sizeS l : Int) < keep
  · have e1 : ka = [] := by rw [← ha]; unfold relA; rw [if_pos (.inr h2)]
    have e3 : er = 2 := by rw [← he]; unfold relE; rw [if_pos (.inr h2)]
    clear ha he
    subst e1; subst e3
    go_enter Tryz.func118, Tryz.ntmps118
    go_wp2_with fail
    refine (size_val rfl (by omega) hr (sizeS l) rfl).mono ?_
    rintro e ws ⟨rfl, gs⟩
    replace hr := hr.hold gs
    replace hG := hG.trans gs
    clear gs
    go_wp2_with fail
    go_returns
    exact ⟨none, 0, none, 0, 0, rfl, NewRuns.nil _ _, hG⟩
  have h3 : ¬ (keep < 1 ∨ (sizeS l : Int) < keep) := fun h => h.elim h1 h2
  have e3 : er = 0 := by rw [← he]; unfold relE; rw [if_neg h3]
  have hk1 : ints (joinS (ints (cutA l keep.toNat))) = ka := by rw [← ha]; unfold relA; rw [if_neg h3]
  have hl1 : ka.length ≤ l.length := by have := joinS_len (ints (cutA l keep.toNat)); rw [← hk1, ints_len]; rw [ints_len, cutA_len] at this; exact this
  obtain ⟨k2, hk2⟩ : ∃ k, ints (joinS (ints (cutB l keep.toNat))) = k := ⟨_, rfl⟩
  have hl2 : k2.length ≤ l.length := by have := joinS_len (ints (cutB l keep.toNat)); rw [← hk2, ints_len]; rw [ints_len, cutB_len] at this; exact this
  have HK1 := Lib.hid hk1
  have HK2 := Lib.hid hk2
  clear ha he hk1 hk2 h3
  subst e3
  go_enter Tryz.func118, Tryz.ntmps118
  go_wp2_with fail
  refine (size_val rfl (by omega) hr (sizeS l) rfl).mono ?_
  rintro e ws ⟨rfl, gs⟩
  replace hr := hr.hold gs
  replace hG := hG.trans gs
  clear gs
  have HS0 := Lib.hid hG.size
  go_wp2_with fail
  refine (cut_any A c l ws ws.heap.size (Nat.le_refl _) (by omega) hr keep keep.toNat n0 n1 rfl).mono ?_
  rintro e w3 ⟨v1, v2, rfl, ho1, ho2, g3⟩
  obtain ⟨A1, c1, hv1, hnr1⟩ := NewRuns.of_own ho1 (joinS_bd _) HK1.out
  obtain ⟨A2, c2, hv2, hnr2⟩ := NewRuns.of_own ho2 (joinS_bd _) HK2.out
  subst hv1; subst hv2
  have r1 := hnr1.1
  have r2 := hnr2.1
  have HN1 := Lib.hid (show NewRuns w w3 A1 c1 ka from ⟨hnr1.1, hnr1.2.1, hnr1.2.2.1, fun b off e => Nat.le_trans HS0.out (hnr1.2.2.2 b off e)⟩)
  replace hG := hG.trans g3
  clear ho1 ho2 hnr1 hnr2 g3 hr
  go_wp2_with fail
  refine (minus_val rfl rfl (by omega) (by omega) r2 r1 _ rfl).mono ?_
  rintro e w4 ⟨A3, c3, rfl, r3, g4⟩
  go_wp2_with fail
  go_returns
  exact ⟨_, _, _, _, _, rfl, HN1.out.hold g4, hG.trans g4⟩
end
end Go.Proofs.YtnlaogneceanoaaGreat
namespace Go.Proofs.YtnlaogneceanoaaGreat
set_option linter.unusedVariables false
set_option linter.unusedSimpArgs false
set_option linter.unusedSectionVars false
open Go.RowKit
attribute [local go_sem ↓] Go.wp_at_zero Go.wp_at_succ
def chExt (T : Tab) (n : Int) (k : Nat) (l : Lab) : List Lab × Int := (T.labels.set k { l with ext := ints (extS l.ext (freeT T) n).1 }, (extS l.ext (freeT T) n).2)
def chRel (T : Tab) (keep : Int) (k : Nat) (l : Lab) : List Lab × Int := (T.labels.set k { l with ext := relA l.ext keep }, relE l.ext keep)
def chRep (T : Tab) (ex : List (Int × Int)) (k : Nat) (l : Lab) : List Lab × Int := (T.labels.set k { l with ext := ex }, if sizeS ex = sizeS l.ext ∧ validT { T with labels := T.labels.set k { l with ext := ex } } = true then 0 else 1)
def chCon (T : Tab) (id : Int) (note : ByteArray) (k : Nat) (l : Lab) : List Lab × Int :=
  if l.unit = 0 then (T.labels, 9) else if 400 < note.size then (T.labels, 1)
  else ((if 0 ≤ idxT T id 0 then T.labels.set (idxT T id 0).toNat labZ else T.labels).set k { l with unit := 0, note := note }, 0)
def chNote (T : Tab) (note : ByteArray) (k : Nat) (l : Lab) : List Lab × Int := if 400 < note.size then (T.labels, 1) else (T.labels.set k { l with note := note }, 0)
def chRem (T : Tab) (k : Nat) (_l : Lab) : List Lab × Int := (T.labels.set k labZ, 0)
def chgT (T : Tab) (id unit : Int) (F : Nat → Lab → List Lab × Int) : Tab × Int :=
  if validT T = true then
    if 0 ≤ idxT T id unit then
      (if (F (idxT T id unit).toNat (T.labels.getD (idxT T id unit).toNat labZ)).2 = 0 then ({ T with labels := (F (idxT T id unit).toNat (T.labels.getD (idxT T id unit).toNat labZ)).1 }, 0) else (tabZ, (F (idxT T id unit).toNat (T.labels.getD (idxT T id unit).toNat labZ)).2))
    else (tabZ, 6)
  else (tabZ, 1)
/-- Where a changed table lies while it is changed: its labels in block g, the variable itself in block xo. -/
structure OutAt (w w1 : World) (base g cap xo : Nat) (ys : List LabE) (T : Tab) : Prop where
  grew : Grew w w1
  hg : w.heap.size ≤ g
  hx : w.heap.size ≤ xo
  ne : xo ≠ g
  tab : TabO w1 base (.slice (some ⟨g, 0, none⟩) T.labels.length cap) ys T.labels
  blk : Blk w1 xo 24 #[.string T.name, .int .i64 T.tracks, .slice (some ⟨g, 0, none⟩) T.labels.length cap]
/-- A closure's contract: it makes labels and an error of a label. -/
def ChgR (w1 : World) (base g cap n : Nat) (r : List Lab × Int) (e : Ending) (w2 : World) : Prop :=
  e = .returned (.int .i64 r.2) ∧ (∃ ys, TabO w2 base (.slice (some ⟨g, 0, none⟩) n cap) ys r.1) ∧ Turned (fun x => x = g) w1 w2
theorem TabO.row {w : World} {base g n cap : Nat} {ys : List LabE} {ls : List Lab} (h : TabO w base (.slice (some ⟨g, 0, none⟩) n cap) ys ls) {k : Nat} (hk : k < ls.length) :
    ∃ B d, (ys.map labC)[k]? = some (labC ⟨B, d, ls[k]⟩) ∧ LabAt w B d ls[k] ∧ (0 < ls[k].ext.length → ∀ b off, B = some ⟨b, off, none⟩ → b ≠ g) ∧ ys[k]? = some ⟨B, d, ls[k]⟩ := by
  have hy : k < ys.length := by rw [h.len]; exact hk
  have h1 : (ys.map (·.l))[k]? = some ys[k].l := by rw [List.getElem?_map, List.getElem?_eq_getElem hy]; rfl
  rw [h.eq, List.getElem?_eq_getElem hk] at h1
  have h2 := Option.some.inj h1
  have h3 : ys[k] = ⟨ys[k].A, ys[k].c, ls[k]⟩ := by rw [h2]
  refine ⟨ys[k].A, ys[k].c, by rw [List.getElem?_map, List.getElem?_eq_getElem hy, ← h3]; rfl, by rw [h2]; exact h.lab _ (List.getElem_mem hy), fun h0 b off e => ?_, by rw [List.getElem?_eq_getElem hy, ← h3]⟩
  have := h.far ys[k] (List.getElem_mem hy) (by rw [← h2]; exact h0) b off e
  intro e2
  exact this (by rw [e2]; rfl)
theorem OwnL.cell0 {w : World} {base e sz g n cap : Nat} {rows : List (List Value)} (h : OwnL w base e sz (.slice (some ⟨g, 0, none⟩) n cap) rows) {j : Nat} {r : List Value} {u : Value} (hj : rows[j]? = some r) (hi : r[0]? = some u) : w.cell? ⟨g, j * sz, none⟩ = some u := h.cell hj hi
theorem OwnL.block_lt {w : World} {base e sz g n cap : Nat} {rows : List (List Value)} (h : OwnL w base e sz (.slice (some ⟨g, 0, none⟩) n cap) rows) : base ≤ g ∧ g < w.heap.size := h.own_ge rfl
theorem set_turned (w : World) (g o : Nat) (u : Value) : Turned (fun x => x = g) w (w.setCell ⟨g, o, none⟩ u) := (Turned.refl (fun x => x = g) w).setCell (p := ⟨g, o, none⟩) (fun _ => rfl) u
/-- One cell of one label is another one now. -/
theorem TabO.field {w : World} {base g n cap : Nat} {ys : List LabE} {ls : List Lab} (h : TabO w base (.slice (some ⟨g, 0, none⟩) n cap) ys ls) {k : Nat} (hk : k < ls.length) {B : Option Addr} {d : Nat} (hrow : (ys.map labC)[k]? = some (labC ⟨B, d, ls[k]⟩)) (i : Nat) (hi : i < 5) (u : Value) (y : LabE) (hy : labC y = (labC ⟨B, d, ls[k]⟩).set i u)
    (hl : LabAt w y.A y.c y.l) (hf : 0 < y.l.ext.length → ∀ b off, y.A = some ⟨b, off, none⟩ → b ≠ g) : TabO (w.setCell ⟨g, k * 5 + i, none⟩ u) base (.slice (some ⟨g, 0, none⟩) n cap) (ys.set k y) (ls.set k y.l) :=
  h.set_ k y hk (by rw [hy]; exact h.own.set_ hrow hi rfl u) (set_turned w g _ u) (hl.turned (set_turned w g _ u) (fun h0 b off e => hf h0 b off e)) hf
theorem TabO.after {w : World} {base g n cap : Nat} {ys : List LabE} {ls : List Lab} {k : Nat} {y : LabE} (hk : k < ys.length) : ((ys.set k y).map labC)[k]? = some (labC y) := by
  rw [List.getElem?_map, List.getElem?_set_self hk]; rfl
/-- A whole label of the own slice is stored anew, cell by cell. -/
theorem OwnL.set5 {w : World} {base e g n cap : Nat} {rows : List (List Value)} (h : OwnL w base e 5 (.slice (some ⟨g, 0, none⟩) n cap) rows) {j : Nat} {r : List Value} (hj : rows[j]? = some r) (a b c d f : Value) :
    OwnL (((((w.setCell ⟨g, j * 5, none⟩ a).setCell ⟨g, j * 5 + 1, none⟩ b).setCell ⟨g, j * 5 + 2, none⟩ c).setCell ⟨g, j * 5 + 3, none⟩ d).setCell ⟨g, j * 5 + 4, none⟩ f) base e 5 (.slice (some ⟨g, 0, none⟩) n cap) (rows.set j [a, b, c, d, f]) := by
  have hl : r.length = 5 := h.1 r (List.mem_of_getElem? hj)
  have hlt : j < rows.length := (List.getElem?_eq_some_iff.1 hj).1
  have h0 := h.set_ (i := 0) (o := j * 5) hj (by omega) rfl a
  have h1 := h0.set_ (i := 1) (o := j * 5 + 1) (List.getElem?_set_self hlt) (by omega) rfl b
  rw [List.set_set] at h1
  have h2 := h1.set_ (i := 2) (o := j * 5 + 2) (List.getElem?_set_self hlt) (by omega) rfl c
  rw [List.set_set] at h2
  have h3 := h2.set_ (i := 3) (o := j * 5 + 3) (List.getElem?_set_self hlt) (by omega) rfl d
  rw [List.set_set] at h3
  have h4 := h3.set_ (i := 4) (o := j * 5 + 4) (List.getElem?_set_self hlt) (by omega) rfl f
  rw [List.set_set] at h4
  match r, hl with
  | [r0, r1, r2, r3, r4], _ => exact h4
theorem set5_turned (w : World) (g o : Nat) (a b c d f : Value) : Turned (fun x => x = g) w (((((w.setCell ⟨g, o, none⟩ a).setCell ⟨g, o + 1, none⟩ b).setCell ⟨g, o + 2, none⟩ c).setCell ⟨g, o + 3, none⟩ d).setCell ⟨g, o + 4, none⟩ f) :=
  ((((set_turned w g _ a).trans (set_turned _ g _ b)).trans (set_turned _ g _ c)).trans (set_turned _ g _ d)).trans (set_turned _ g _ f)
theorem TabO.set5 {w : World} {base g n cap : Nat} {ys : List LabE} {ls : List Lab} (h : TabO w base (.slice (some ⟨g, 0, none⟩) n cap) ys ls) {k : Nat} (hk : k < ls.length) (y : LabE)
    (hl : LabAt w y.A y.c y.l) (hf : 0 < y.l.ext.length → ∀ b off, y.A = some ⟨b, off, none⟩ → b ≠ g) :
    TabO (((((w.setCell ⟨g, k * 5, none⟩ (.int .i64 y.l.id)).setCell ⟨g, k * 5 + 1, none⟩ (.int .i64 y.l.unit)).setCell ⟨g, k * 5 + 2, none⟩ (.string y.l.name)).setCell ⟨g, k * 5 + 3, none⟩ (.string y.l.note)).setCell ⟨g, k * 5 + 4, none⟩ (.slice y.A y.l.ext.length y.c)) base (.slice (some ⟨g, 0, none⟩) n cap) (ys.set k y) (ls.set k y.l) := by
  obtain ⟨B, d, hrow, _, _, _⟩ := h.row hk
  exact h.set_ k y hk (h.own.set5 hrow _ _ _ _ _) (set5_turned w g _ _ _ _ _ _) (hl.turned (set5_turned w g _ _ _ _ _ _) (fun h0 b off e => hf h0 b off e)) hf
section
variable (w w1 : World) (base g cap xo : Nat) (ys : List LabE) (T : Tab) (k : Nat) (hk : k < T.labels.length) (h : OutAt w w1 base g cap xo ys T)
include h
set_option maxRecDepth 100000 in
set_option maxHeartbeats 4000000 in
theorem note1_any (note : ByteArray) (hns : note.size ≤ 9223372036854775807) (gn : Nat) (hb : Blk w gn 9 #[.string note]) :
    Calls Tryz.prog 120 #[.pointer (some ⟨g, k * 5, none⟩), .pointer (some ⟨xo, 0, none⟩), .pointer (some ⟨gn, 0, none⟩)] w1 (ChgR w1 base g cap T.labels.length (chNote T note k T.labels[k])) := by
  obtain ⟨B, d, hrow, hla, hfar, _⟩ := h.tab.row hk
  have hb1 := hb.grew h.grew
  have hbl := hb.lt
  have hg1 := h.tab.own.block_lt
  have x0 := hb1.cell 0
  have hbl1 := hb1.lt
  have y3 : w1.cell? ⟨g, k * 5 + 3, none⟩ = some (.string T.labels[k].note) := h.tab.own.cell hrow (i := 3) rfl
  have y0 : w1.cell? ⟨g, k * 5, none⟩ = some (.int .i64 T.labels[k].id) := h.tab.own.cell0 hrow rfl
  have f3 := h.tab.own.frozen (k * 5 + 3)
  by_cases hn : 400 < note.size
  · have HE := Lib.hid (show chNote T note k T.labels[k] = (T.labels, 1) from if_pos hn)
    have hni : (note.size : Int) > 400 := by omega
    have HT := Lib.hid h.tab
    clear h hrow hla hfar hb hb1
    go_enter Tryz.func120, Tryz.ntmps120
    go_wp2_with fail
    go_ret
    rw [HE.out]
    exact ⟨rfl, ⟨_, HT.out⟩, by (repeat' first | (with_reducible exact Turned.refl _ _) | (with_reducible assumption) | (with_reducible refine Turned.alloc ?_ _) | (with_reducible refine Turned.drew ?_) | (with_reducible refine Turned.drewN ?_ _) | (with_reducible refine Turned.setRow ?_ (by first | (simp; done) | (simp; omega) | omega) _) | (with_reducible refine Turned.setCell ?_ (by first | (simp; done) | (simp; omega) | omega) _) | ((with_reducible apply Turned.andGrew); rotate_left; (with_reducible assumption)) | ((with_reducible apply Turned.trans); rotate_left; (with_reducible assumption)) | fail)⟩
  · have HE := Lib.hid (show chNote T note k T.labels[k] = (T.labels.set k { T.labels[k] with note := note }, 0) from if_neg hn)
    have hni : ¬ (note.size : Int) > 400 := by omega
    have hl2 : LabAt w1 B d { T.labels[k] with note := note } := ⟨hla.id0, hla.id1, hla.unit0, hla.unit1, hla.name, hns, hla.runs, hla.len, hla.cap⟩
    have HT := Lib.hid (h.tab.field hk hrow 3 (by decide) (.string note) ⟨B, d, { T.labels[k] with note := note }⟩ rfl hl2 hfar)
    have ht := set_turned w1 g (k * 5 + 3) (.string note)
    have HTU := Lib.hid ht
    clear h hrow hla hfar hb hb1 ht hl2
    go_enter Tryz.func120, Tryz.ntmps120
    go_wp2_with fail
    go_ret
    rw [HE.out]
    exact ⟨rfl, ⟨_, HT.out⟩, HTU.out⟩
set_option maxRecDepth 100000 in
set_option maxHeartbeats 4000000 in
theorem remove1_any : Calls Tryz.prog 121 #[.pointer (some ⟨g, k * 5, none⟩), .pointer (some ⟨xo, 0, none⟩)] w1 (ChgR w1 base g cap T.labels.length (chRem T k T.labels[k])) := by
  obtain ⟨B, d, hrow, hla, hfar, _⟩ := h.tab.row hk
  have hg1 := h.tab.own.block_lt
  have y0 : w1.cell? ⟨g, k * 5, none⟩ = some (.int .i64 T.labels[k].id) := h.tab.own.cell0 hrow rfl
  have y1 : w1.cell? ⟨g, k * 5 + 1, none⟩ = some (.int .i64 T.labels[k].unit) := h.tab.own.cell hrow (i := 1) rfl
  have y2 : w1.cell? ⟨g, k * 5 + 2, none⟩ = some (.string T.labels[k].name) := h.tab.own.cell hrow (i := 2) rfl
  have y3 : w1.cell? ⟨g, k * 5 + 3, none⟩ = some (.string T.labels[k].note) := h.tab.own.cell hrow (i := 3) rfl
  have y4 : w1.cell? ⟨g, k * 5 + 4, none⟩ = some (.slice B T.labels[k].ext.length d) := h.tab.own.cell hrow (i := 4) rfl
  have f0 := h.tab.own.frozen (k * 5)
  have f1 := h.tab.own.frozen (k * 5 + 1)
  have f2 := h.tab.own.frozen (k * 5 + 2)
  have f3 := h.tab.own.frozen (k * 5 + 3)
  have f4 := h.tab.own.frozen (k * 5 + 4)
  have HT := Lib.hid (h.tab.set5 hk ⟨none, 0, labZ⟩ (LabAt.zero _) (fun h0 => absurd h0 (by decide)))
  have HTU := Lib.hid (set5_turned w1 g (k * 5))
  clear h hrow hla hfar
  go_enter Tryz.func121, Tryz.ntmps121
  go_wp2_with fail
  go_ret
  exact ⟨rfl, ⟨_, HT.out⟩, HTU.out _ _ _ _ _⟩
set_option maxRecDepth 100000 in
set_option maxHeartbeats 4000000 in
theorem extend1_any (A : Option Addr) (c : Nat) (xs : List LabE) (hT : TabAt w A c xs T) (hs : SmallT T) (n : Int) (n0 : -9223372036854775808 ≤ n) (n1 : n ≤ 9223372036854775807) (gt gn : Nat) (ht : Blk w gt 24 #[.string T.name, .int .i64 T.tracks, .slice A T.labels.length c]) (hb : Blk w gn 3 #[.int .i64 n]) :
    Calls Tryz.prog 115 #[.pointer (some ⟨g, k * 5, none⟩), .pointer (some ⟨xo, 0, none⟩), .pointer (some ⟨gt, 0, none⟩), .pointer (some ⟨gn, 0, none⟩)] w1 (ChgR w1 base g cap T.labels.length (chExt T n k T.labels[k])) := by
  obtain ⟨B, d, hrow, hla, hfar, _⟩ := h.tab.row hk
  have hle := hs.ext T.labels[k] (List.getElem_mem hk)
  have ht1 := ht.grew h.grew
  have hb1 := hb.grew h.grew
  have hg1 := h.tab.own.block_lt
  have y0 : w1.cell? ⟨g, k * 5, none⟩ = some (.int .i64 T.labels[k].id) := h.tab.own.cell0 hrow rfl
  have y4 : w1.cell? ⟨g, k * 5 + 4, none⟩ = some (.slice B T.labels[k].ext.length d) := h.tab.own.cell hrow (i := 4) rfl
  obtain ⟨kf, hkf⟩ : ∃ kf, freeT T = kf := ⟨_, rfl⟩
  have hkl : kf.length ≤ 128 := by rw [← hkf]; exact freeT_len T
  obtain ⟨ke, hke⟩ : ∃ ke, ints (extS T.labels[k].ext kf n).1 = ke := ⟨_, rfl⟩
  obtain ⟨er, her⟩ : ∃ er, (extS T.labels[k].ext kf n).2 = er := ⟨_, rfl⟩
  have HE := Lib.hid (show chExt T n k T.labels[k] = (T.labels.set k { T.labels[k] with ext := ke }, er) from by unfold chExt; rw [hkf, hke, her])
  have HFC := Lib.hid (fun w2 (g2 : Grew w1 w2) => free_tab A c xs T w2 (hT.hold (h.grew.trans g2)) hs _ rfl kf hkf)
  have HX := Lib.hid (fun (w2 : World) (g2 : Grew w1 w2) A5 c5 (hr : RunsAt w2 w2.heap.size A5 kf) => extend_new (A := B) (c := d) (m := T.labels[k].ext.length) (A2 := A5) (c2 := c5) (w := w2) rfl rfl hle (by omega) ((hla.hold g2).runs) hr n n0 n1 ke er hke her)
  have HTAB := Lib.hid h.tab
  have HROW := Lib.hid hrow
  have HLA := Lib.hid hla
  have HT1 := Lib.hid ht1
  have HB1 := Lib.hid hb1
  have hS : (fun w' : World => w'.cell? ⟨g, k * 5, none⟩ = some (.int .i64 T.labels[k].id) ∧ w'.cell? ⟨g, k * 5 + 4, none⟩ = some (.slice B T.labels[k].ext.length d) ∧ w'.cell? ⟨gt, 0, none⟩ = some (.string T.name) ∧ w'.cell? ⟨gt, 1, none⟩ = some (.int .i64 T.tracks) ∧ w'.cell? ⟨gt, 2, none⟩ = some (.slice A T.labels.length c) ∧ w'.cell? ⟨gn, 0, none⟩ = some (.int .i64 n)) w1.drew := ⟨y0, y4, ht1.cell 0, ht1.cell 1, ht1.cell 2, hb1.cell 0⟩
  have hSg : ∀ w2 w3 : World, Grew w2 w3 → g < w2.heap.size → gt < w2.heap.size → gn < w2.heap.size → (fun w' : World => w'.cell? ⟨g, k * 5, none⟩ = some (.int .i64 T.labels[k].id) ∧ w'.cell? ⟨g, k * 5 + 4, none⟩ = some (.slice B T.labels[k].ext.length d) ∧ w'.cell? ⟨gt, 0, none⟩ = some (.string T.name) ∧ w'.cell? ⟨gt, 1, none⟩ = some (.int .i64 T.tracks) ∧ w'.cell? ⟨gt, 2, none⟩ = some (.slice A T.labels.length c) ∧ w'.cell? ⟨gn, 0, none⟩ = some (.int .i64 n)) w2 → (fun w' : World => w'.cell? ⟨g, k * 5, none⟩ = some (.int .i64 T.labels[k].id) ∧ w'.cell? ⟨g, k * 5 + 4, none⟩ = some (.slice B T.labels[k].ext.length d) ∧ w'.cell? ⟨gt, 0, none⟩ = some (.string T.name) ∧ w'.cell? ⟨gt, 1, none⟩ = some (.int .i64 T.tracks) ∧ w'.cell? ⟨gt, 2, none⟩ = some (.slice A T.labels.length c) ∧ w'.cell? ⟨gn, 0, none⟩ = some (.int .i64 n)) w3 := fun w2 w3 h9 z1 z2 z3 h8 => by
    simp only [h9.cellEq _ _ z1, h9.cellEq _ _ z2, h9.cellEq _ _ z3]
    exact h8
  have HSG := Lib.hid hSg
  have hgt := ht1.lt
  have hgn := hb1.lt
  clear h hrow hla hfar hkf hke her ht hb ht1 hb1 hT hSg
  go_enter Tryz.func115, Tryz.ntmps115
  go_wp2_with fail
  refine wp_region_R [] (fun w' : World => w'.cell? ⟨g, k * 5, none⟩ = some (.int .i64 T.labels[k].id) ∧ w'.cell? ⟨g, k * 5 + 4, none⟩ = some (.slice B T.labels[k].ext.length d) ∧ w'.cell? ⟨gt, 0, none⟩ = some (.string T.name) ∧ w'.cell? ⟨gt, 1, none⟩ = some (.int .i64 T.tracks) ∧ w'.cell? ⟨gt, 2, none⟩ = some (.slice A T.labels.length c) ∧ w'.cell? ⟨gn, 0, none⟩ = some (.int .i64 n)) (by kernel_rfl) ?_
  refine wpAnyR_takeQ (i := 0) (v := ?_) (some 10) rfl rfl (by kernel_rfl) (by kernel_rfl) (by kernel_rfl) (by kernel_rfl) (fun _ _ _ h => h) (Or.inl ⟨by rfl, ?_⟩) ?_
  rotate_left
  focus (intro wS hSw; (try dsimp only at hSw); go_simp; (try with_reducible rfl); (try (first | (rw [if_pos (by omega)]; (try go_simp); (try with_reducible rfl)) | (rw [if_neg (by omega)]; (try go_simp); (try with_reducible rfl)))))
  try simp only [Act.put, zA, zB, zC]
  refine wpAnyR_take (i := 1) (v := ?_) [2, 3, 7, 8, 9, 10, 11, 12] (some 11) rfl rfl (by kernel_rfl) (by kernel_rfl) (by kernel_rfl) (by kernel_rfl) (by kernel_rfl) (by kernel_rfl) (by kernel_rfl) (fun _ _ _ h => h) (Or.inl ⟨by rfl, ?_⟩) hS ?_
  rotate_left
  focus (intro wS hSw; (try dsimp only at hSw); go_simp; (try with_reducible rfl); (try (first | (rw [if_pos (by omega)]; (try go_simp); (try with_reducible rfl)) | (rw [if_neg (by omega)]; (try go_simp); (try with_reducible rfl)))))
  try simp only [Act.put, zA, zB, zC]
  refine wpAnyR_takeQ (i := 2) (v := ?_) (some 12) rfl rfl (by kernel_rfl) (by kernel_rfl) (by kernel_rfl) (by kernel_rfl) (fun _ _ _ h => h) (Or.inl ⟨by rfl, ?_⟩) ?_
  rotate_left
  focus (intro wS hSw; (try dsimp only at hSw); go_simp; (try with_reducible rfl); (try (first | (rw [if_pos (by omega)]; (try go_simp); (try with_reducible rfl)) | (rw [if_neg (by omega)]; (try go_simp); (try with_reducible rfl)))))
  try simp only [Act.put, zA, zB, zC]
  refine wpAnyR_take (i := 3) (v := ?_) [7, 8, 9, 10, 11, 12] (some 13) rfl rfl (by kernel_rfl) (by kernel_rfl) (by kernel_rfl) (by kernel_rfl) (by kernel_rfl) (by kernel_rfl) (by kernel_rfl) (fun _ _ _ h => h) (Or.inl ⟨by rfl, ?_⟩) hS ?_
  rotate_left
  focus (intro wS hSw; (try dsimp only at hSw); go_simp; (try with_reducible rfl); (try (first | (rw [if_pos (by omega)]; (try go_simp); (try with_reducible rfl)) | (rw [if_neg (by omega)]; (try go_simp); (try with_reducible rfl)))))
  try simp only [Act.put, zA, zB, zC]
  refine wpAnyR_take (i := 4) (v := ?_) [5, 7, 8, 9, 10, 11, 12] (some 14) rfl rfl (by kernel_rfl) (by kernel_rfl) (by kernel_rfl) (by kernel_rfl) (by kernel_rfl) (by kernel_rfl) (by kernel_rfl) (fun _ _ _ h => h) (Or.inl ⟨by rfl, ?_⟩) hS ?_
  rotate_left
  focus (intro wS hSw; (try dsimp only at hSw); go_simp; (try with_reducible rfl); (try (first | (rw [if_pos (by omega)]; (try go_simp); (try with_reducible rfl)) | (rw [if_neg (by omega)]; (try go_simp); (try with_reducible rfl)))))
  try simp only [Act.put, zA, zB, zC]
  refine wpAnyR_take (i := 6) (v := ?_) [7, 8, 9, 10, 11, 12] (some 16) rfl rfl (by kernel_rfl) (by kernel_rfl) (by kernel_rfl) (by kernel_rfl) (by kernel_rfl) (by kernel_rfl) (by kernel_rfl) (fun _ _ _ h => h) (Or.inl ⟨by rfl, ?_⟩) hS ?_
  rotate_left
  focus (intro wS hSw; (try dsimp only at hSw); go_simp; (try with_reducible rfl); (try (first | (rw [if_pos (by omega)]; (try go_simp); (try with_reducible rfl)) | (rw [if_neg (by omega)]; (try go_simp); (try with_reducible rfl)))))
  try simp only [Act.put, zA, zB, zC]
  refine wpAnyR_n1 (i := 5) rfl (by kernel_rfl) ?_
  intro K' hK
  rw [if_pos (by rfl)]
  simp only [List.getElem_toArray, List.getElem_cons_succ, List.getElem_cons_zero]
  go_wp2_with fail
  refine (HFC.out _ (Grew.refl w1).drew).mono ?_
  rintro e w2 ⟨A5, c5, rfl, hr5, g2⟩
  have g2' : Grew w1 w2 := (Grew.refl w1).drew.trans g2
  have hS2 := HSG.out _ _ g2 hg1.2 hgt hgn hS
  have HR5 := Lib.hid hr5
  clear hr5
  go_wp2_with fail
  refine hK.out _ _ (.inr (fun _ => hS2)) ?_
  clear hK
  refine wpAnyR_n1 (i := 7) rfl (by kernel_rfl) ?_
  intro K' hK
  rw [if_pos (by rfl)]
  simp only [List.getElem_toArray, List.getElem_cons_succ, List.getElem_cons_zero]
  go_wp2_with fail
  refine (HX.out w2 g2' A5 c5 HR5.out).mono ?_
  rintro e w3 ⟨A6, c6, rfl, hr6, g3⟩
  have g3' : Grew w1 w3 := g2'.trans g3
  have HR6 := Lib.hid hr6
  have hF6 : ∀ b off, A6 = some ⟨b, off, none⟩ → b ≠ g := fun b off e => by have := hr6.2.2.2 b off e; have := g2'.size; omega
  have HF6 := Lib.hid hF6
  clear hr6 hF6
  go_wp2_with fail
  refine hK.out _ _ (.inr (fun h => by
    simp only [g3.cellEq _ _ (Nat.lt_of_lt_of_le hg1.2 g2'.size), g3.cellEq _ _ (Nat.lt_of_lt_of_le hgt g2'.size), g3.cellEq _ _ (Nat.lt_of_lt_of_le hgn g2'.size)]
    exact h)) ?_
  clear hK
  refine wpAnyR_takeQ (i := 8) (v := ?_) (some 9) rfl rfl (by kernel_rfl) (by kernel_rfl) (by kernel_rfl) (by kernel_rfl) (fun _ _ _ h => h) (Or.inl ⟨by rfl, ?_⟩) ?_
  rotate_left
  focus (intro wS hSw; (try dsimp only at hSw); go_simp; (try with_reducible rfl); (try (first | (rw [if_pos (by omega)]; (try go_simp); (try with_reducible rfl)) | (rw [if_neg (by omega)]; (try go_simp); (try with_reducible rfl)))))
  try simp only [Act.put, zA, zB, zC]
  refine wpAnyR_takeQ (i := 9) (v := ?_) (some 18) rfl rfl (by kernel_rfl) (by kernel_rfl) (by kernel_rfl) (by kernel_rfl) (fun _ _ _ h => h) (Or.inl ⟨by rfl, ?_⟩) ?_
  rotate_left
  focus (intro wS hSw; (try dsimp only at hSw); go_simp; (try with_reducible rfl); (try (first | (rw [if_pos (by omega)]; (try go_simp); (try with_reducible rfl)) | (rw [if_neg (by omega)]; (try go_simp); (try with_reducible rfl)))))
  try simp only [Act.put, zA, zB, zC]
  refine wpAnyR_takeQ (i := 10) (v := ?_) (some 19) rfl rfl (by kernel_rfl) (by kernel_rfl) (by kernel_rfl) (by kernel_rfl) (fun _ _ _ h => h) (Or.inl ⟨by rfl, ?_⟩) ?_
  rotate_left
  focus (intro wS hSw; (try dsimp only at hSw); go_simp; (try with_reducible rfl); (try (first | (rw [if_pos (by omega)]; (try go_simp); (try with_reducible rfl)) | (rw [if_neg (by omega)]; (try go_simp); (try with_reducible rfl)))))
  try simp only [Act.put, zA, zB, zC]
  refine wpAnyR_takeQ (i := 11) (v := ?_) (some 7) rfl rfl (by kernel_rfl) (by kernel_rfl) (by kernel_rfl) (by kernel_rfl) (fun _ _ _ h => h) (Or.inl ⟨by rfl, ?_⟩) ?_
  rotate_left
  focus (intro wS hSw; (try dsimp only at hSw); go_simp; (try with_reducible rfl); (try (first | (rw [if_pos (by omega)]; (try go_simp); (try with_reducible rfl)) | (rw [if_neg (by omega)]; (try go_simp); (try with_reducible rfl)))))
  try simp only [Act.put, zA, zB, zC]
  refine wpAnyR_takeQ (i := 12) (v := ?_) (some 8) rfl rfl (by kernel_rfl) (by kernel_rfl) (by kernel_rfl) (by kernel_rfl) (fun _ _ _ h => h) (Or.inl ⟨by rfl, ?_⟩) ?_
  rotate_left
  focus (intro wS hSw; (try dsimp only at hSw); go_simp; (try with_reducible rfl); (try (first | (rw [if_pos (by omega)]; (try go_simp); (try with_reducible rfl)) | (rw [if_neg (by omega)]; (try go_simp); (try with_reducible rfl)))))
  try simp only [Act.put, zA, zB, zC]
  refine wpAnyR_done (by kernel_rfl) ?_ _
  have ht3 := HTAB.out.hold g3'
  have hl3 := HLA.out.hold g3'
  have hl6 : LabAt w3 A6 c6 { T.labels[k] with ext := ke } := ⟨hl3.id0, hl3.id1, hl3.unit0, hl3.unit1, hl3.name, hl3.note, HR6.out.1, HR6.out.2.1, HR6.out.2.2.1⟩
  have HT6 := Lib.hid (ht3.field hk HROW.out 4 (by decide) (.slice A6 ke.length c6) ⟨A6, c6, { T.labels[k] with ext := ke }⟩ rfl hl6 (fun _ => HF6.out))
  have HTU := Lib.hid ((g3'.turned (fun x => x = g)).trans (set_turned w3 g (k * 5 + 4) (.slice A6 ke.length c6)))
  have z4 : w3.cell? ⟨g, k * 5 + 4, none⟩ = some (.slice B T.labels[k].ext.length d) := ht3.own.cell HROW.out (i := 4) rfl
  have z0 : w3.cell? ⟨g, k * 5, none⟩ = some (.int .i64 T.labels[k].id) := ht3.own.cell0 HROW.out rfl
  have zf := ht3.own.frozen (k * 5 + 4)
  have hzs := Nat.lt_of_lt_of_le hg1.2 g3'.size
  clear ht3 hl3 hl6 hS2 hS y0 y4 g2 g3 g2' g3'
  go_wp2_with fail
  go_ret
  rw [HE.out]
  exact ⟨rfl, ⟨_, HT6.out⟩, HTU.out⟩
set_option maxRecDepth 100000 in
set_option maxHeartbeats 4000000 in
theorem release1_any (hs : SmallT T) (n : Int) (n0 : -9223372036854775808 ≤ n) (n1 : n ≤ 9223372036854775807) (gn : Nat) (hb : Blk w gn 3 #[.int .i64 n]) :
    Calls Tryz.prog 117 #[.pointer (some ⟨g, k * 5, none⟩), .pointer (some ⟨xo, 0, none⟩), .pointer (some ⟨gn, 0, none⟩)] w1 (ChgR w1 base g cap T.labels.length (chRel T n k T.labels[k])) := by
  obtain ⟨B, d, hrow, hla, hfar, _⟩ := h.tab.row hk
  have hle := hs.ext T.labels[k] (List.getElem_mem hk)
  have hb1 := hb.grew h.grew
  have hg1 := h.tab.own.block_lt
  have y0 : w1.cell? ⟨g, k * 5, none⟩ = some (.int .i64 T.labels[k].id) := h.tab.own.cell0 hrow rfl
  have y4 : w1.cell? ⟨g, k * 5 + 4, none⟩ = some (.slice B T.labels[k].ext.length d) := h.tab.own.cell hrow (i := 4) rfl
  obtain ⟨ke, hke⟩ : ∃ ke, relA T.labels[k].ext n = ke := ⟨_, rfl⟩
  obtain ⟨er, her⟩ : ∃ er, relE T.labels[k].ext n = er := ⟨_, rfl⟩
  have HE := Lib.hid (show chRel T n k T.labels[k] = (T.labels.set k { T.labels[k] with ext := ke }, er) from by unfold chRel; rw [hke, her])
  have HX := Lib.hid (fun (w2 : World) (g2 : Grew w1 w2) => release_new (A := B) (c := d) (m := T.labels[k].ext.length) (w := w2) rfl hle ((hla.hold g2).runs) n n0 n1 ke er hke her)
  have HTAB := Lib.hid h.tab
  have HROW := Lib.hid hrow
  have HLA := Lib.hid hla
  have HB1 := Lib.hid hb1
  have hS : (fun w' : World => w'.cell? ⟨g, k * 5, none⟩ = some (.int .i64 T.labels[k].id) ∧ w'.cell? ⟨g, k * 5 + 4, none⟩ = some (.slice B T.labels[k].ext.length d) ∧ w'.cell? ⟨gn, 0, none⟩ = some (.int .i64 n)) w1.drew := ⟨y0, y4, hb1.cell 0⟩
  have hgn := hb1.lt
  clear h hrow hla hfar hke her hb hb1
  go_enter Tryz.func117, Tryz.ntmps117
  go_wp2_with fail
  refine wp_region_R [] (fun w' : World => w'.cell? ⟨g, k * 5, none⟩ = some (.int .i64 T.labels[k].id) ∧ w'.cell? ⟨g, k * 5 + 4, none⟩ = some (.slice B T.labels[k].ext.length d) ∧ w'.cell? ⟨gn, 0, none⟩ = some (.int .i64 n)) (by kernel_rfl) ?_
  refine wpAnyR_takeQ (i := 0) (v := ?_) (some 10) rfl rfl (by kernel_rfl) (by kernel_rfl) (by kernel_rfl) (by kernel_rfl) (fun _ _ _ h => h) (Or.inl ⟨by rfl, ?_⟩) ?_
  rotate_left
  focus (intro wS hSw; (try dsimp only at hSw); go_simp; (try with_reducible rfl); (try (first | (rw [if_pos (by omega)]; (try go_simp); (try with_reducible rfl)) | (rw [if_neg (by omega)]; (try go_simp); (try with_reducible rfl)))))
  try simp only [Act.put, zA, zB, zC]
  refine wpAnyR_take (i := 1) (v := ?_) [2, 3, 5, 6, 7, 8, 9, 10, 11, 12] (some 11) rfl rfl (by kernel_rfl) (by kernel_rfl) (by kernel_rfl) (by kernel_rfl) (by kernel_rfl) (by kernel_rfl) (by kernel_rfl) (fun _ _ _ h => h) (Or.inl ⟨by rfl, ?_⟩) hS ?_
  rotate_left
  focus (intro wS hSw; (try dsimp only at hSw); go_simp; (try with_reducible rfl); (try (first | (rw [if_pos (by omega)]; (try go_simp); (try with_reducible rfl)) | (rw [if_neg (by omega)]; (try go_simp); (try with_reducible rfl)))))
  try simp only [Act.put, zA, zB, zC]
  refine wpAnyR_takeQ (i := 2) (v := ?_) (some 12) rfl rfl (by kernel_rfl) (by kernel_rfl) (by kernel_rfl) (by kernel_rfl) (fun _ _ _ h => h) (Or.inl ⟨by rfl, ?_⟩) ?_
  rotate_left
  focus (intro wS hSw; (try dsimp only at hSw); go_simp; (try with_reducible rfl); (try (first | (rw [if_pos (by omega)]; (try go_simp); (try with_reducible rfl)) | (rw [if_neg (by omega)]; (try go_simp); (try with_reducible rfl)))))
  try simp only [Act.put, zA, zB, zC]
  refine wpAnyR_take (i := 3) (v := ?_) [5, 6, 7, 8, 9, 10, 11, 12] (some 13) rfl rfl (by kernel_rfl) (by kernel_rfl) (by kernel_rfl) (by kernel_rfl) (by kernel_rfl) (by kernel_rfl) (by kernel_rfl) (fun _ _ _ h => h) (Or.inl ⟨by rfl, ?_⟩) hS ?_
  rotate_left
  focus (intro wS hSw; (try dsimp only at hSw); go_simp; (try with_reducible rfl); (try (first | (rw [if_pos (by omega)]; (try go_simp); (try with_reducible rfl)) | (rw [if_neg (by omega)]; (try go_simp); (try with_reducible rfl)))))
  try simp only [Act.put, zA, zB, zC]
  refine wpAnyR_take (i := 4) (v := ?_) [5, 6, 7, 8, 9, 10, 11, 12] (some 14) rfl rfl (by kernel_rfl) (by kernel_rfl) (by kernel_rfl) (by kernel_rfl) (by kernel_rfl) (by kernel_rfl) (by kernel_rfl) (fun _ _ _ h => h) (Or.inl ⟨by rfl, ?_⟩) hS ?_
  rotate_left
  focus (intro wS hSw; (try dsimp only at hSw); go_simp; (try with_reducible rfl); (try (first | (rw [if_pos (by omega)]; (try go_simp); (try with_reducible rfl)) | (rw [if_neg (by omega)]; (try go_simp); (try with_reducible rfl)))))
  try simp only [Act.put, zA, zB, zC]
  refine wpAnyR_n1 (i := 5) rfl (by kernel_rfl) ?_
  intro K' hK
  rw [if_pos (by rfl)]
  simp only [List.getElem_toArray, List.getElem_cons_succ, List.getElem_cons_zero]
  go_wp2_with fail
  refine (HX.out _ (Grew.refl w1).drew).mono ?_
  rintro e w3 ⟨A6, c6, A7, n7, c7, rfl, hr6, g3⟩
  have g3' : Grew w1 w3 := (Grew.refl w1).drew.trans g3
  have HR6 := Lib.hid hr6
  have hF6 : ∀ b off, A6 = some ⟨b, off, none⟩ → b ≠ g := fun b off e => by have : w1.heap.size ≤ b := hr6.2.2.2 b off e; omega
  have HF6 := Lib.hid hF6
  clear hr6 hF6
  go_wp2_with fail
  refine hK.out _ _ (.inr (fun h => by
    simp only [g3'.cellEq _ _ hg1.2, g3'.cellEq _ _ hgn]
    exact h)) ?_
  clear hK
  refine wpAnyR_takeQ (i := 6) (v := ?_) (some 9) rfl rfl (by kernel_rfl) (by kernel_rfl) (by kernel_rfl) (by kernel_rfl) (fun _ _ _ h => h) (Or.inl ⟨by rfl, ?_⟩) ?_
  rotate_left
  focus (intro wS hSw; (try dsimp only at hSw); go_simp; (try with_reducible rfl); (try (first | (rw [if_pos (by omega)]; (try go_simp); (try with_reducible rfl)) | (rw [if_neg (by omega)]; (try go_simp); (try with_reducible rfl)))))
  try simp only [Act.put, zA, zB, zC]
  refine wpAnyR_takeQ (i := 7) (v := ?_) (some 16) rfl rfl (by kernel_rfl) (by kernel_rfl) (by kernel_rfl) (by kernel_rfl) (fun _ _ _ h => h) (Or.inl ⟨by rfl, ?_⟩) ?_
  rotate_left
  focus (intro wS hSw; (try dsimp only at hSw); go_simp; (try with_reducible rfl); (try (first | (rw [if_pos (by omega)]; (try go_simp); (try with_reducible rfl)) | (rw [if_neg (by omega)]; (try go_simp); (try with_reducible rfl)))))
  try simp only [Act.put, zA, zB, zC]
  refine wpAnyR_takeQ (i := 8) (v := ?_) (some 17) rfl rfl (by kernel_rfl) (by kernel_rfl) (by kernel_rfl) (by kernel_rfl) (fun _ _ _ h => h) (Or.inl ⟨by rfl, ?_⟩) ?_
  rotate_left
  focus (intro wS hSw; (try dsimp only at hSw); go_simp; (try with_reducible rfl); (try (first | (rw [if_pos (by omega)]; (try go_simp); (try with_reducible rfl)) | (rw [if_neg (by omega)]; (try go_simp); (try with_reducible rfl)))))
  try simp only [Act.put, zA, zB, zC]
  refine wpAnyR_takeQ (i := 9) (v := ?_) (some 18) rfl rfl (by kernel_rfl) (by kernel_rfl) (by kernel_rfl) (by kernel_rfl) (fun _ _ _ h => h) (Or.inl ⟨by rfl, ?_⟩) ?_
  rotate_left
  focus (intro wS hSw; (try dsimp only at hSw); go_simp; (try with_reducible rfl); (try (first | (rw [if_pos (by omega)]; (try go_simp); (try with_reducible rfl)) | (rw [if_neg (by omega)]; (try go_simp); (try with_reducible rfl)))))
  try simp only [Act.put, zA, zB, zC]
  refine wpAnyR_takeQ (i := 10) (v := ?_) (some 6) rfl rfl (by kernel_rfl) (by kernel_rfl) (by kernel_rfl) (by kernel_rfl) (fun _ _ _ h => h) (Or.inl ⟨by rfl, ?_⟩) ?_
  rotate_left
  focus (intro wS hSw; (try dsimp only at hSw); go_simp; (try with_reducible rfl); (try (first | (rw [if_pos (by omega)]; (try go_simp); (try with_reducible rfl)) | (rw [if_neg (by omega)]; (try go_simp); (try with_reducible rfl)))))
  try simp only [Act.put, zA, zB, zC]
  refine wpAnyR_takeQ (i := 11) (v := ?_) (some 7) rfl rfl (by kernel_rfl) (by kernel_rfl) (by kernel_rfl) (by kernel_rfl) (fun _ _ _ h => h) (Or.inl ⟨by rfl, ?_⟩) ?_
  rotate_left
  focus (intro wS hSw; (try dsimp only at hSw); go_simp; (try with_reducible rfl); (try (first | (rw [if_pos (by omega)]; (try go_simp); (try with_reducible rfl)) | (rw [if_neg (by omega)]; (try go_simp); (try with_reducible rfl)))))
  try simp only [Act.put, zA, zB, zC]
  refine wpAnyR_takeQ (i := 12) (v := ?_) (some 8) rfl rfl (by kernel_rfl) (by kernel_rfl) (by kernel_rfl) (by kernel_rfl) (fun _ _ _ h => h) (Or.inl ⟨by rfl, ?_⟩) ?_
  rotate_left
  focus (intro wS hSw; (try dsimp only at hSw); go_simp; (try with_reducible rfl); (try (first | (rw [if_pos (by omega)]; (try go_simp); (try with_reducible rfl)) | (rw [if_neg (by omega)]; (try go_simp); (try with_reducible rfl)))))
  try simp only [Act.put, zA, zB, zC]
  refine wpAnyR_done (by kernel_rfl) ?_ _
  have ht3 := HTAB.out.hold g3'
  have hl3 := HLA.out.hold g3'
  have hl6 : LabAt w3 A6 c6 { T.labels[k] with ext := ke } := ⟨hl3.id0, hl3.id1, hl3.unit0, hl3.unit1, hl3.name, hl3.note, HR6.out.1, HR6.out.2.1, HR6.out.2.2.1⟩
  have HT6 := Lib.hid (ht3.field hk HROW.out 4 (by decide) (.slice A6 ke.length c6) ⟨A6, c6, { T.labels[k] with ext := ke }⟩ rfl hl6 (fun _ => HF6.out))
  have HTU := Lib.hid ((g3'.turned (fun x => x = g)).trans (set_turned w3 g (k * 5 + 4) (.slice A6 ke.length c6)))
  have z4 : w3.cell? ⟨g, k * 5 + 4, none⟩ = some (.slice B T.labels[k].ext.length d) := ht3.own.cell HROW.out (i := 4) rfl
  have z0 : w3.cell? ⟨g, k * 5, none⟩ = some (.int .i64 T.labels[k].id) := ht3.own.cell0 HROW.out rfl
  have zf := ht3.own.frozen (k * 5 + 4)
  have hzs := Nat.lt_of_lt_of_le hg1.2 g3'.size
  clear ht3 hl3 hl6 hS y0 y4 g3 g3'
  go_wp2_with fail
  go_ret
  rw [HE.out]
  exact ⟨rfl, ⟨_, HT6.out⟩, HTU.out⟩
end
end Go.Proofs.YtnlaogneceanoaaGreat
namespace Go.Proofs.YtnlaogneceanoaaGreat
set_option linter.unusedVariables false
set_option linter.unusedSimpArgs false
set_option linter.unusedSectionVars false
open Go.RowKit
attribute [local go_sem ↓] Go.wp_at_zero Go.wp_at_succ
theorem TabO.row0 {w : World} {base g n cap : Nat} {ys : List LabE} {ls : List Lab} (h : TabO w base (.slice (some ⟨g, 0, none⟩) n cap) ys ls) {k : Nat} (hk : k < ls.length) : w.cell? ⟨g, k * 5, none⟩ = some (.int .i64 ls[k].id) := by
  obtain ⟨B, d, hrow, _, _, _⟩ := h.row hk
  exact h.own.cell0 hrow rfl
theorem TabO.row1 {w : World} {base g n cap : Nat} {ys : List LabE} {ls : List Lab} (h : TabO w base (.slice (some ⟨g, 0, none⟩) n cap) ys ls) {k : Nat} (hk : k < ls.length) : w.cell? ⟨g, k * 5 + 1, none⟩ = some (.int .i64 ls[k].unit) := by
  obtain ⟨B, d, hrow, _, _, _⟩ := h.row hk
  exact h.own.cell hrow (i := 1) rfl
theorem TabO.row3 {w : World} {base g n cap : Nat} {ys : List LabE} {ls : List Lab} (h : TabO w base (.slice (some ⟨g, 0, none⟩) n cap) ys ls) {k : Nat} (hk : k < ls.length) : w.cell? ⟨g, k * 5 + 3, none⟩ = some (.string ls[k].note) := by
  obtain ⟨B, d, hrow, _, _, _⟩ := h.row hk
  exact h.own.cell hrow (i := 3) rfl
theorem TabO.unit_ {w : World} {base g n cap : Nat} {ys : List LabE} {ls : List Lab} (h : TabO w base (.slice (some ⟨g, 0, none⟩) n cap) ys ls) {k : Nat} (hk : k < ls.length) (u : Int) (hu : -9223372036854775808 ≤ u ∧ u ≤ 9223372036854775807) : ∃ ys', TabO (w.setCell ⟨g, k * 5 + 1, none⟩ (.int .i64 u)) base (.slice (some ⟨g, 0, none⟩) n cap) ys' (ls.set k { ls[k] with unit := u }) := by
  obtain ⟨B, d, hrow, hla, hfar, _⟩ := h.row hk
  exact ⟨_, h.field hk hrow 1 (by decide) (.int .i64 u) ⟨B, d, { ls[k] with unit := u }⟩ rfl ⟨hla.id0, hla.id1, hu.1, hu.2, hla.name, hla.note, hla.runs, hla.len, hla.cap⟩ hfar⟩
theorem TabO.note_ {w : World} {base g n cap : Nat} {ys : List LabE} {ls : List Lab} (h : TabO w base (.slice (some ⟨g, 0, none⟩) n cap) ys ls) {k : Nat} (hk : k < ls.length) (u : ByteArray) (hu : u.size ≤ 9223372036854775807) : ∃ ys', TabO (w.setCell ⟨g, k * 5 + 3, none⟩ (.string u)) base (.slice (some ⟨g, 0, none⟩) n cap) ys' (ls.set k { ls[k] with note := u }) := by
  obtain ⟨B, d, hrow, hla, hfar, _⟩ := h.row hk
  exact ⟨_, h.field hk hrow 3 (by decide) (.string u) ⟨B, d, { ls[k] with note := u }⟩ rfl ⟨hla.id0, hla.id1, hla.unit0, hla.unit1, hla.name, hu, hla.runs, hla.len, hla.cap⟩ hfar⟩
theorem runs_turned {S : Nat → Prop} {w w' : World} {A : Option Addr} {l : List (Int × Int)} (h : RunsAt w w.heap.size A l) (ht : Turned S w w') (hS : 0 < l.length → ∀ b off, A = some ⟨b, off, none⟩ → ¬ S b) : RunsAt w' w'.heap.size A l :=
  ⟨h.1, fun h0 => by
    obtain ⟨b, off, e, hb, hc⟩ := h.2 h0
    exact ⟨b, off, e, Nat.lt_of_lt_of_le hb ht.size, fun j cs hj i v hi => by rw [ht.cellEq _ _ hb (hS (by simpa using h0) b off e)]; exact hc j cs hj i v hi⟩⟩
theorem TabO.tabAt {w : World} {base g n cap : Nat} {ys : List LabE} {ls : List Lab} (h : TabO w base (.slice (some ⟨g, 0, none⟩) n cap) ys ls) (nm : ByteArray) (t : Int) (hn : nm.size ≤ 9223372036854775807) (t0 : -9223372036854775808 ≤ t) (t1 : t ≤ 9223372036854775807) : TabAt w (some ⟨g, 0, none⟩) cap ys ⟨nm, t, ls⟩ := by
  obtain ⟨A, c, hv, ht⟩ := h.form
  injection hv with h1 _ h3
  rw [h1, h3]
  exact ht nm t hn t0 t1
section
variable (w w1 : World) (base g cap xo : Nat) (ys : List LabE) (T : Tab) (k : Nat) (hk : k < T.labels.length) (h : OutAt w w1 base g cap xo ys T)
include h
set_option maxRecDepth 100000 in
set_option maxHeartbeats 8000000 in
theorem replace1_any (hs : SmallT T) (hn0 : T.name.size ≤ 9223372036854775807) (ht0 : -9223372036854775808 ≤ T.tracks) (ht1 : T.tracks ≤ 9223372036854775807) (Ax : Option Addr) (cx : Nat) (ex : List (Int × Int)) (hx : RunsAt w w.heap.size Ax ex) (hxl : ex.length ≤ 1000) (ge : Nat) (hb : Blk w ge 29 #[.slice Ax ex.length cx]) :
    Calls Tryz.prog 119 #[.pointer (some ⟨g, k * 5, none⟩), .pointer (some ⟨xo, 0, none⟩), .pointer (some ⟨ge, 0, none⟩)] w1 (ChgR w1 base g cap T.labels.length (chRep T ex k T.labels[k])) := by
  obtain ⟨B, d, hrow, hla, hfar, _⟩ := h.tab.row hk
  have hle := hs.ext T.labels[k] (List.getElem_mem hk)
  have hb1 := hb.grew h.grew
  have hg1 := h.tab.own.block_lt
  have hxo := h.blk.lt
  have hne := h.ne
  have y0 : w1.cell? ⟨g, k * 5, none⟩ = some (.int .i64 T.labels[k].id) := h.tab.row0 hk
  have y4 : w1.cell? ⟨g, k * 5 + 4, none⟩ = some (.slice B T.labels[k].ext.length d) := h.tab.own.cell hrow (i := 4) rfl
  have HS1 := Lib.hid (size_val (A := B) (c := d) (n := T.labels[k].ext.length) rfl (by omega) hla.runs _ rfl)
  have HX := Lib.hid (fun (w2 : World) (g2 : Grew w1 w2) => clone_runs Ax cx ex.length ex w2 rfl (by omega) ((hx.keep (Nat.le_refl _) (h.grew.trans g2)).mono2 (h.grew.trans g2).size).2)
  have HX2 := Lib.hid (fun (w2 : World) (g2 : Grew w1 w2) => ((hx.keep (Nat.le_refl _) (h.grew.trans g2)).mono2 (h.grew.trans g2).size : RunsAt w2 w2.heap.size Ax ex))
  have HOK := Lib.hid hx.1
  have HTAB := Lib.hid h.tab
  have HBO := Lib.hid h.blk
  have HROW := Lib.hid hrow
  have HLA := Lib.hid hla
  have HB1 := Lib.hid hb1
  have hge := hb1.lt
  have hgw := hb.lt
  have hgg : ¬ ge = g := by have := h.hg; omega
  have HAX := Lib.hid (show ∀ b off, 0 < ex.length → Ax = some ⟨b, off, none⟩ → b ≠ g from fun b off h0 e => by
    obtain ⟨b', off', e', hb', _⟩ := hx.2 (by simpa using h0)
    rw [e] at e'
    injection e' with e'
    injection e' with e'
    have := h.hg
    omega)
  have x0 := hb1.cell 0
  obtain ⟨T', hT'⟩ : ∃ T' : Tab, T' = { T with labels := T.labels.set k { T.labels[k] with ext := ex } } := ⟨_, rfl⟩
  have HSM := Lib.hid (show SmallT T' from by
    subst hT'
    refine ⟨by simpa using hs.len, fun l hl => ?_⟩
    rcases List.mem_or_eq_of_mem_set hl with hl | rfl
    · exact hs.ext l hl
    · exact hxl)
  have HL' := Lib.hid (show T'.labels = T.labels.set k { T.labels[k] with ext := ex } from by rw [hT'])
  have HLN := Lib.hid (show T.labels.length = T'.labels.length from by rw [hT']; simp)
  have HN' := Lib.hid (show T'.name = T.name from by rw [hT'])
  have HTR' := Lib.hid (show T'.tracks = T.tracks from by rw [hT'])
  have HCH := Lib.hid (show chRep T ex k T.labels[k] = (T.labels.set k { T.labels[k] with ext := ex }, if sizeS ex = sizeS T.labels[k].ext ∧ validT T' = true then 0 else 1) from by rw [hT']; rfl)
  have hsz1 := sizeS_le ex
  have hsz2 := sizeS_le T.labels[k].ext
  clear h hrow hla hfar hb hb1 hT' hx
  go_enter Tryz.func119, Tryz.ntmps119
  go_wp2_with fail
  refine HS1.out.mono ?_
  rintro e w2 ⟨rfl, g2⟩
  have x0 := (HB1.out.grew g2).cell 0
  have hge2 := Nat.lt_of_lt_of_le hge g2.size
  go_wp2_with fail
  refine (HX.out w2 g2).mono ?_
  rintro e w3 ⟨v3, rfl, hown3, g3⟩
  obtain ⟨A3, c3, hv3, hlc3, hc3, hr3⟩ := own_runsL hown3 HOK.out
  subst hv3
  have g3' : Grew w1 w3 := g2.trans g3
  have hF3 := own_far hown3 (Nat.lt_of_lt_of_le hg1.2 g2.size) rfl
  have ht3 := HTAB.out.hold g3'
  have hl3 := HLA.out.hold g3'
  have hl6 : LabAt w3 A3 c3 { T.labels[k] with ext := ex } := ⟨hl3.id0, hl3.id1, hl3.unit0, hl3.unit1, hl3.name, hl3.note, hr3, hlc3, hc3⟩
  have HT6 := Lib.hid (ht3.field hk HROW.out 4 (by decide) (.slice A3 ex.length c3) ⟨A3, c3, { T.labels[k] with ext := ex }⟩ rfl hl6 (fun _ => hF3))
  have HTU := Lib.hid ((g3'.turned (fun x => x = g)).trans (set_turned w3 g (k * 5 + 4) (.slice A3 ex.length c3)))
  have z4 : w3.cell? ⟨g, k * 5 + 4, none⟩ = some (.slice B T.labels[k].ext.length d) := ht3.own.cell HROW.out (i := 4) rfl
  have z0 : w3.cell? ⟨g, k * 5, none⟩ = some (.int .i64 T.labels[k].id) := ht3.row0 hk
  have zf := ht3.own.frozen (k * 5 + 4)
  have hzs := Nat.lt_of_lt_of_le hg1.2 g3'.size
  have x3 := (HB1.out.grew g3').cell 0
  have hge3 := Nat.lt_of_lt_of_le hge g3'.size
  have b4 := (HB1.out.grew g3').far (p := ⟨g, k * 5 + 4, none⟩) hgg (.slice A3 ex.length c3)
  have o4 := (HBO.out.grew g3').far (p := ⟨g, k * 5 + 4, none⟩) hne (.slice A3 ex.length c3)
  have r4 := runs_turned (HX2.out w3 g3') (set_turned w3 g (k * 5 + 4) (.slice A3 ex.length c3)) (fun h0 b off e => HAX.out b off h0 e)
  have hz4 := (set_turned w3 g (k * 5 + 4) (.slice A3 ex.length c3)).size
  have HO4 := Lib.hid o4
  have HS2 := Lib.hid (size_val (A := Ax) (c := cx) (n := ex.length) rfl (by omega) r4 _ rfl)
  have hx4 := o4.lt
  clear hown3 hr3 hF3 ht3 hl3 hl6 g2 g3 g3' b4 o4 r4 y0 y4 x0
  by_cases hse : sizeS ex = sizeS T.labels[k].ext
  rotate_left
  · have hnb : ((sizeS ex : Int) != (sizeS T.labels[k].ext : Int)) = true := by rw [bne_iff_ne]; omega
    have HE := Lib.hid (HCH.out.trans (by rw [if_neg (fun h => hse h.1)]))
    clear hse
    go_wp2_with fail
    refine HS2.out.mono ?_
    rintro e w5 ⟨rfl, g5⟩
    go_wp2_with fail
    go_ret
    rw [HE.out]
    exact ⟨rfl, ⟨_, HT6.out.hold g5⟩, HTU.out.trans (g5.turned _)⟩
  have hnb : ((sizeS ex : Int) != (sizeS T.labels[k].ext : Int)) = false := by rw [bne_eq_false_iff_eq]; omega
  have HSE := Lib.hid hse
  clear hse
  go_wp2_with fail
  refine HS2.out.mono ?_
  rintro e w5 ⟨rfl, g5⟩
  have o5 := HO4.out.grew g5
  have u0 := o5.cell 0
  have u1 := o5.cell 1
  have u2 := o5.cell 2
  have hx5 := o5.lt
  have ht5 := (HT6.out.hold g5).tabAt T.name T.tracks hn0 ht0 ht1
  rw [← HL'.out] at ht5
  have HV := Lib.hid (valid_tab _ _ _ _ w5 ht5 (by have := HSM.out; exact ⟨this.len, this.ext⟩) T.labels.length HLN.out)
  have HVT := Lib.hid (show validT ⟨T.name, T.tracks, T'.labels⟩ = validT T' from by rw [← HN'.out, ← HTR'.out])
  have HG5 := Lib.hid g5
  clear o5 g5 ht5
  cases hv : validT T' with
  | false =>
    have HE := Lib.hid (HCH.out.trans (by rw [if_neg (fun h => by rw [hv] at h; cases h.2)]))
    have HVF := Lib.hid hv
    clear hv
    go_wp2_with fail
    refine HV.out.mono ?_
    rintro e w6 ⟨rfl, g6⟩
    rw [HVT.out, HVF.out]
    go_wp2_with fail
    go_ret
    rw [HE.out]
    exact ⟨rfl, ⟨_, (HT6.out.hold HG5.out).hold g6⟩, (HTU.out.trans (HG5.out.turned _)).trans (g6.turned _)⟩
  | true =>
    have HE := Lib.hid (HCH.out.trans (by rw [if_pos ⟨HSE.out, hv⟩]))
    have HVF := Lib.hid hv
    clear hv
    go_wp2_with fail
    refine HV.out.mono ?_
    rintro e w6 ⟨rfl, g6⟩
    rw [HVT.out, HVF.out]
    go_wp2_with fail
    go_ret
    rw [HE.out]
    exact ⟨rfl, ⟨_, (HT6.out.hold HG5.out).hold g6⟩, (HTU.out.trans (HG5.out.turned _)).trans (g6.turned _)⟩
end
end Go.Proofs.YtnlaogneceanoaaGreat
