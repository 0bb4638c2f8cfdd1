/- Chapter 7: LabelValid. -/
import Derived.Test.YtkiciojipiakoaaLabL
namespace Go.Proofs.Ytkiciojipiakoaa
set_option linter.unusedVariables false
set_option linter.unusedSimpArgs false
set_option linter.unusedSectionVars false
open Go.RowKit
attribute [local go_sem ↓] Go.wp_at_zero Go.wp_at_succ
theorem eqL_self (l : Lab) : eqL l l = true := by unfold eqL; simp
theorem fewL_len (l : Lab) (h : fewL l = true) : l.name.size ≤ 100 ∧ l.note.size ≤ 500 ∧ l.ext.length ≤ 30 := by
  unfold fewL at h
  simp only [Bool.and_eq_true, decide_eq_true_eq] at h
  exact ⟨h.1.1, h.1.2, h.2⟩
set_option maxRecDepth 100000 in
set_option maxHeartbeats 4000000 in
theorem labelValid_any (A B : Option Addr) (c d : Nat) (l k : Lab) (t : Int) (t0 : -9223372036854775808 ≤ t) (t1 : t ≤ 9223372036854775807) (w : World) (hl : LabAt w A c l) (hk : LabAt w B d k) :
    Calls Try.prog 3 #[.agg #[.int .i64 l.id, .int .i64 l.unit, .string l.name, .string l.note, .slice A l.ext.length c], .agg #[.int .i64 k.id, .int .i64 k.unit, .string k.name, .string k.note, .slice B k.ext.length d], .int .i64 t] w fun e w' => e = .returned (.bool true) ∧ Grew w w' := by
  have g0 := ((Grew.refl w).alloc (.cells #[.int .i64 l.id, .int .i64 l.unit, .string l.name, .string l.note, .slice A l.ext.length c] 24)).alloc (.cells #[.int .i64 k.id, .int .i64 k.unit, .string k.name, .string k.note, .slice B k.ext.length d] 24)
  have HG0 := Lib.hid g0
  have HBL := Lib.hid ((Blk.new w 24 #[.int .i64 l.id, .int .i64 l.unit, .string l.name, .string l.note, .slice A l.ext.length c] rfl).alloc (.cells #[.int .i64 k.id, .int .i64 k.unit, .string k.name, .string k.note, .slice B k.ext.length d] 24))
  have HBK := Lib.hid (Blk.new (w.alloc (.cells #[.int .i64 l.id, .int .i64 l.unit, .string l.name, .string l.note, .slice A l.ext.length c] 24)) 24 #[.int .i64 k.id, .int .i64 k.unit, .string k.name, .string k.note, .slice B k.ext.length d] (n := w.heap.size + 1) (by simp))
  have HFL := Lib.hid (fun w' (g : Grew w w') => few_any A c l w' (hl.hold g))
  have HFK := Lib.hid (fun w' (g : Grew w w') => few_any B d k w' (hk.hold g))
  have HL := Lib.hid hl
  have HK := Lib.hid hk
  clear hl hk g0
  cases f1 : fewL l with
  | false =>
    have HF1 := Lib.hid f1
    clear f1
    go_enter Try.func3, Try.ntmps3
    go_wp2_with fail
    refine (awake_any _).mono ?_
    rintro e w1 ⟨rfl, g1⟩
    have hlb := (HBK.out.grew g1).lt
    have x0 := (HBL.out.grew g1).cell 0
    have y0 := (HBK.out.grew g1).cell 0
    have x1 := (HBL.out.grew g1).cell 1
    have y1 := (HBK.out.grew g1).cell 1
    have x2 := (HBL.out.grew g1).cell 2
    have y2 := (HBK.out.grew g1).cell 2
    have x3 := (HBL.out.grew g1).cell 3
    have y3 := (HBK.out.grew g1).cell 3
    have x4 := (HBL.out.grew g1).cell 4
    have y4 := (HBK.out.grew g1).cell 4
    go_wp2_with fail
    refine (HFL.out _ (HG0.out.trans g1)).mono ?_
    rintro e w2 ⟨rfl, g2⟩
    rw [HF1.out]
    go_wp2_with fail
    refine (awake_any _).mono ?_
    rintro e w3 ⟨rfl, g3⟩
    go_wp2_with fail
    go_ret
    exact ⟨rfl, ((HG0.out.trans g1).trans g2).trans g3⟩
  | true =>
    have HF1 := Lib.hid f1
    obtain ⟨_, _, hl30⟩ := fewL_len l f1
    clear f1
    cases f2 : fewL k with
    | false =>
      have HF2 := Lib.hid f2
      clear f2
      go_enter Try.func3, Try.ntmps3
      go_wp2_with fail
      refine (awake_any _).mono ?_
      rintro e w1 ⟨rfl, g1⟩
      have hlb := (HBK.out.grew g1).lt
      have x0 := (HBL.out.grew g1).cell 0
      have y0 := (HBK.out.grew g1).cell 0
      have x1 := (HBL.out.grew g1).cell 1
      have y1 := (HBK.out.grew g1).cell 1
      have x2 := (HBL.out.grew g1).cell 2
      have y2 := (HBK.out.grew g1).cell 2
      have x3 := (HBL.out.grew g1).cell 3
      have y3 := (HBK.out.grew g1).cell 3
      have x4 := (HBL.out.grew g1).cell 4
      have y4 := (HBK.out.grew g1).cell 4
      go_wp2_with fail
      refine (HFL.out _ (HG0.out.trans g1)).mono ?_
      rintro e w2 ⟨rfl, g2⟩
      rw [HF1.out]
      replace g1 := g1.trans g2
      clear g2 hlb x0 x1 x2 x3 x4 y0 y1 y2 y3 y4
      have hlb := (HBK.out.grew g1).lt
      have x0 := (HBL.out.grew g1).cell 0
      have y0 := (HBK.out.grew g1).cell 0
      have x1 := (HBL.out.grew g1).cell 1
      have y1 := (HBK.out.grew g1).cell 1
      have x2 := (HBL.out.grew g1).cell 2
      have y2 := (HBK.out.grew g1).cell 2
      have x3 := (HBL.out.grew g1).cell 3
      have y3 := (HBK.out.grew g1).cell 3
      have x4 := (HBL.out.grew g1).cell 4
      have y4 := (HBK.out.grew g1).cell 4
      go_wp2_with fail
      refine (HFK.out _ (HG0.out.trans g1)).mono ?_
      rintro e w3 ⟨rfl, g3⟩
      rw [HF2.out]
      go_wp2_with fail
      refine (awake_any _).mono ?_
      rintro e w4 ⟨rfl, g4⟩
      go_wp2_with fail
      go_ret
      exact ⟨rfl, ((HG0.out.trans g1).trans g3).trans g4⟩
    | true =>
      have HF2 := Lib.hid f2
      obtain ⟨_, _, hk30⟩ := fewL_len k f2
      clear f2
      have HVL := Lib.hid (fun w' (g : Grew w w') => valid_lab A c l t w' (HL.out.hold g) (by omega))
      have HRL := Lib.hid (fun w' (g : Grew w w') => rvalid_lab A c l t w' (HL.out.hold g) (by omega) t0 t1)
      have HQ := Lib.hid (fun w' (g : Grew w w') => lequal_any A B c d l k w' (HL.out.hold g) (HK.out.hold g) (by omega) (by omega))
      have HRQ := Lib.hid (fun w' (g : Grew w w') => requal_any A B c d l k w' (HL.out.hold g) (HK.out.hold g) (by omega) (by omega))
      have HQL0 := (fun w' (g : Grew w w') => lequal_any A A c c l l w' (HL.out.hold g) (HL.out.hold g) (by omega) (by omega))
      rw [eqL_self] at HQL0
      have HQL := Lib.hid HQL0
      have HEL0 := (fun w' (g : Grew w w') => encode_lab A c l t w' (HL.out.hold g) (by omega) t0 t1)
      have HREL0 := (fun w' (g : Grew w w') => rencode_lab A c l t w' (HL.out.hold g) (by omega) t0 t1)
      obtain ⟨E, hE⟩ : ∃ E, encS l t = E := ⟨_, rfl⟩
      rw [hE] at HEL0 HREL0
      have HEL := Lib.hid HEL0
      have HREL := Lib.hid HREL0
      clear HQL0 HEL0 HREL0 hE
      go_enter Try.func3, Try.ntmps3
      go_wp2_with fail
      refine (awake_any _).mono ?_
      rintro e w1 ⟨rfl, g1⟩
      have hlb := (HBK.out.grew g1).lt
      have x0 := (HBL.out.grew g1).cell 0
      have y0 := (HBK.out.grew g1).cell 0
      have x1 := (HBL.out.grew g1).cell 1
      have y1 := (HBK.out.grew g1).cell 1
      have x2 := (HBL.out.grew g1).cell 2
      have y2 := (HBK.out.grew g1).cell 2
      have x3 := (HBL.out.grew g1).cell 3
      have y3 := (HBK.out.grew g1).cell 3
      have x4 := (HBL.out.grew g1).cell 4
      have y4 := (HBK.out.grew g1).cell 4
      go_wp2_with fail
      refine (HFL.out _ (HG0.out.trans g1)).mono ?_
      rintro e w2 ⟨rfl, g2⟩
      rw [HF1.out]
      replace g1 := g1.trans g2
      clear g2 hlb x0 x1 x2 x3 x4 y0 y1 y2 y3 y4
      have hlb := (HBK.out.grew g1).lt
      have x0 := (HBL.out.grew g1).cell 0
      have y0 := (HBK.out.grew g1).cell 0
      have x1 := (HBL.out.grew g1).cell 1
      have y1 := (HBK.out.grew g1).cell 1
      have x2 := (HBL.out.grew g1).cell 2
      have y2 := (HBK.out.grew g1).cell 2
      have x3 := (HBL.out.grew g1).cell 3
      have y3 := (HBK.out.grew g1).cell 3
      have x4 := (HBL.out.grew g1).cell 4
      have y4 := (HBK.out.grew g1).cell 4
      go_wp2_with fail
      refine (HFK.out _ (HG0.out.trans g1)).mono ?_
      rintro e w3 ⟨rfl, g3⟩
      rw [HF2.out]
      replace g1 := g1.trans g3
      clear g3 hlb x0 x1 x2 x3 x4 y0 y1 y2 y3 y4
      obtain ⟨w1, hw1⟩ : ∃ w1, w1 = w3 := ⟨_, rfl⟩
      rw [← hw1] at g1 ⊢
      clear hw1
      go_wp2_with fail
      refine wp_region_R [] (fun w' : World => w'.cell? ⟨w.heap.size, 0, none⟩ = some (.int .i64 l.id) ∧ w'.cell? ⟨w.heap.size, 1, none⟩ = some (.int .i64 l.unit) ∧ w'.cell? ⟨w.heap.size, 2, none⟩ = some (.string l.name) ∧ w'.cell? ⟨w.heap.size, 3, none⟩ = some (.string l.note) ∧ w'.cell? ⟨w.heap.size, 4, none⟩ = some (.slice A l.ext.length c) ∧ w'.cell? ⟨w.heap.size + 1, 0, none⟩ = some (.int .i64 k.id) ∧ w'.cell? ⟨w.heap.size + 1, 1, none⟩ = some (.int .i64 k.unit) ∧ w'.cell? ⟨w.heap.size + 1, 2, none⟩ = some (.string k.name) ∧ w'.cell? ⟨w.heap.size + 1, 3, none⟩ = some (.string k.note) ∧ w'.cell? ⟨w.heap.size + 1, 4, none⟩ = some (.slice B k.ext.length d)) (by kernel_rfl) ?_
      obtain ⟨wr0, hwr0⟩ : ∃ wr0, wr0 = w1.drew := ⟨_, rfl⟩
      rw [← hwr0]
      have hG : Grew ((w.alloc (.cells #[.int .i64 l.id, .int .i64 l.unit, .string l.name, .string l.note, .slice A l.ext.length c] 24)).alloc (.cells #[.int .i64 k.id, .int .i64 k.unit, .string k.name, .string k.note, .slice B k.ext.length d] 24)) wr0 := by rw [hwr0]; exact g1.drew
      clear hwr0
      have hS := (show (fun w' : World => w'.cell? ⟨w.heap.size, 0, none⟩ = some (.int .i64 l.id) ∧ w'.cell? ⟨w.heap.size, 1, none⟩ = some (.int .i64 l.unit) ∧ w'.cell? ⟨w.heap.size, 2, none⟩ = some (.string l.name) ∧ w'.cell? ⟨w.heap.size, 3, none⟩ = some (.string l.note) ∧ w'.cell? ⟨w.heap.size, 4, none⟩ = some (.slice A l.ext.length c) ∧ w'.cell? ⟨w.heap.size + 1, 0, none⟩ = some (.int .i64 k.id) ∧ w'.cell? ⟨w.heap.size + 1, 1, none⟩ = some (.int .i64 k.unit) ∧ w'.cell? ⟨w.heap.size + 1, 2, none⟩ = some (.string k.name) ∧ w'.cell? ⟨w.heap.size + 1, 3, none⟩ = some (.string k.note) ∧ w'.cell? ⟨w.heap.size + 1, 4, none⟩ = some (.slice B k.ext.length d)) wr0 from ⟨(HBL.out.grew hG).cell 0, (HBL.out.grew hG).cell 1, (HBL.out.grew hG).cell 2, (HBL.out.grew hG).cell 3, (HBL.out.grew hG).cell 4, (HBK.out.grew hG).cell 0, (HBK.out.grew hG).cell 1, (HBK.out.grew hG).cell 2, (HBK.out.grew hG).cell 3, (HBK.out.grew hG).cell 4⟩)
      refine wpAnyR_take (i := 0) (v := ?_) [2, 5, 6, 7, 8, 9, 10, 11, 12, 13, 14, 15, 16, 17, 18, 19, 20, 21, 22, 23, 24, 25, 26, 27, 28, 29, 30] (some 20) rfl rfl (by kernel_rfl) (by kernel_rfl) (by kernel_rfl) (by kernel_rfl) (by kernel_rfl) (by kernel_rfl) (by kernel_rfl) (fun _ _ _ h => h) (Or.inl ⟨by rfl, ?_⟩) hS ?_
      rotate_left
      focus (intro wS hSw; (try dsimp only at hSw); go_simp; (try with_reducible rfl); (try (first | (rw [if_pos (by omega)]; (try go_simp); (try with_reducible rfl)) | (rw [if_neg (by omega)]; (try go_simp); (try with_reducible rfl)))))
      try simp only [Act.put, List.setIfInBounds_toArray, List.set_cons_zero, List.set_cons_succ]
      refine wpAnyR_takeQ (i := 1) (v := ?_) (some 21) rfl rfl (by kernel_rfl) (by kernel_rfl) (by kernel_rfl) (by kernel_rfl) (fun _ _ _ h => h) (Or.inl ⟨by rfl, ?_⟩) ?_
      rotate_left
      focus (intro wS hSw; (try dsimp only at hSw); go_simp; (try with_reducible rfl); (try (first | (rw [if_pos (by omega)]; (try go_simp); (try with_reducible rfl)) | (rw [if_neg (by omega)]; (try go_simp); (try with_reducible rfl)))))
      try simp only [Act.put, List.setIfInBounds_toArray, List.set_cons_zero, List.set_cons_succ]
      refine wpAnyR_take (i := 3) (v := ?_) [5, 6, 7, 8, 9, 10, 11, 12, 13, 14, 15, 16, 17, 18, 19, 20, 21, 22, 23, 24, 25, 26, 27, 28, 29, 30] (some 23) rfl rfl (by kernel_rfl) (by kernel_rfl) (by kernel_rfl) (by kernel_rfl) (by kernel_rfl) (by kernel_rfl) (by kernel_rfl) (fun _ _ _ h => h) (Or.inl ⟨by rfl, ?_⟩) hS ?_
      rotate_left
      focus (intro wS hSw; (try dsimp only at hSw); go_simp; (try with_reducible rfl); (try (first | (rw [if_pos (by omega)]; (try go_simp); (try with_reducible rfl)) | (rw [if_neg (by omega)]; (try go_simp); (try with_reducible rfl)))))
      try simp only [Act.put, List.setIfInBounds_toArray, List.set_cons_zero, List.set_cons_succ]
      refine wpAnyR_takeQ (i := 4) (v := ?_) (some 24) rfl rfl (by kernel_rfl) (by kernel_rfl) (by kernel_rfl) (by kernel_rfl) (fun _ _ _ h => h) (Or.inl ⟨by rfl, ?_⟩) ?_
      rotate_left
      focus (intro wS hSw; (try dsimp only at hSw); go_simp; (try with_reducible rfl); (try (first | (rw [if_pos (by omega)]; (try go_simp); (try with_reducible rfl)) | (rw [if_neg (by omega)]; (try go_simp); (try with_reducible rfl)))))
      try simp only [Act.put, List.setIfInBounds_toArray, List.set_cons_zero, List.set_cons_succ]
      refine wpAnyR_n1 (i := 2) rfl (by kernel_rfl) ?_
      intro K' hK
      rw [if_pos (by rfl)]
      simp only [List.getElem_toArray, List.getElem_cons_succ, List.getElem_cons_zero]
      go_wp2_with fail
      refine (HVL.out _ (HG0.out.trans hG)).mono ?_
      rintro e ws ⟨rfl, gs⟩
      replace hG := hG.trans gs
      clear gs
      go_wp2_with fail
      refine hK.out _ _ (.inr (fun _ => ⟨(HBL.out.grew hG).cell 0, (HBL.out.grew hG).cell 1, (HBL.out.grew hG).cell 2, (HBL.out.grew hG).cell 3, (HBL.out.grew hG).cell 4, (HBK.out.grew hG).cell 0, (HBK.out.grew hG).cell 1, (HBK.out.grew hG).cell 2, (HBK.out.grew hG).cell 3, (HBK.out.grew hG).cell 4⟩)) ?_
      clear hK hS
      have hS := (show (fun w' : World => w'.cell? ⟨w.heap.size, 0, none⟩ = some (.int .i64 l.id) ∧ w'.cell? ⟨w.heap.size, 1, none⟩ = some (.int .i64 l.unit) ∧ w'.cell? ⟨w.heap.size, 2, none⟩ = some (.string l.name) ∧ w'.cell? ⟨w.heap.size, 3, none⟩ = some (.string l.note) ∧ w'.cell? ⟨w.heap.size, 4, none⟩ = some (.slice A l.ext.length c) ∧ w'.cell? ⟨w.heap.size + 1, 0, none⟩ = some (.int .i64 k.id) ∧ w'.cell? ⟨w.heap.size + 1, 1, none⟩ = some (.int .i64 k.unit) ∧ w'.cell? ⟨w.heap.size + 1, 2, none⟩ = some (.string k.name) ∧ w'.cell? ⟨w.heap.size + 1, 3, none⟩ = some (.string k.note) ∧ w'.cell? ⟨w.heap.size + 1, 4, none⟩ = some (.slice B k.ext.length d)) ws from ⟨(HBL.out.grew hG).cell 0, (HBL.out.grew hG).cell 1, (HBL.out.grew hG).cell 2, (HBL.out.grew hG).cell 3, (HBL.out.grew hG).cell 4, (HBK.out.grew hG).cell 0, (HBK.out.grew hG).cell 1, (HBK.out.grew hG).cell 2, (HBK.out.grew hG).cell 3, (HBK.out.grew hG).cell 4⟩)
      refine wpAnyR_n1 (i := 5) rfl (by kernel_rfl) ?_
      intro K' hK
      rw [if_pos (by rfl)]
      simp only [List.getElem_toArray, List.getElem_cons_succ, List.getElem_cons_zero]
      go_wp2_with fail
      refine (HRL.out _ (HG0.out.trans hG)).mono ?_
      rintro e ws ⟨rfl, gs⟩
      replace hG := hG.trans gs
      clear gs
      go_wp2_with fail
      refine hK.out _ _ (.inr (fun _ => ⟨(HBL.out.grew hG).cell 0, (HBL.out.grew hG).cell 1, (HBL.out.grew hG).cell 2, (HBL.out.grew hG).cell 3, (HBL.out.grew hG).cell 4, (HBK.out.grew hG).cell 0, (HBK.out.grew hG).cell 1, (HBK.out.grew hG).cell 2, (HBK.out.grew hG).cell 3, (HBK.out.grew hG).cell 4⟩)) ?_
      clear hK hS
      have hS := (show (fun w' : World => w'.cell? ⟨w.heap.size, 0, none⟩ = some (.int .i64 l.id) ∧ w'.cell? ⟨w.heap.size, 1, none⟩ = some (.int .i64 l.unit) ∧ w'.cell? ⟨w.heap.size, 2, none⟩ = some (.string l.name) ∧ w'.cell? ⟨w.heap.size, 3, none⟩ = some (.string l.note) ∧ w'.cell? ⟨w.heap.size, 4, none⟩ = some (.slice A l.ext.length c) ∧ w'.cell? ⟨w.heap.size + 1, 0, none⟩ = some (.int .i64 k.id) ∧ w'.cell? ⟨w.heap.size + 1, 1, none⟩ = some (.int .i64 k.unit) ∧ w'.cell? ⟨w.heap.size + 1, 2, none⟩ = some (.string k.name) ∧ w'.cell? ⟨w.heap.size + 1, 3, none⟩ = some (.string k.note) ∧ w'.cell? ⟨w.heap.size + 1, 4, none⟩ = some (.slice B k.ext.length d)) ws from ⟨(HBL.out.grew hG).cell 0, (HBL.out.grew hG).cell 1, (HBL.out.grew hG).cell 2, (HBL.out.grew hG).cell 3, (HBL.out.grew hG).cell 4, (HBK.out.grew hG).cell 0, (HBK.out.grew hG).cell 1, (HBK.out.grew hG).cell 2, (HBK.out.grew hG).cell 3, (HBK.out.grew hG).cell 4⟩)
      refine wpAnyR_takeQ (i := 6) (v := ?_) (some 26) rfl rfl (by kernel_rfl) (by kernel_rfl) (by kernel_rfl) (by kernel_rfl) (fun _ _ _ h => h) (Or.inl ⟨by rfl, ?_⟩) ?_
      rotate_left
      focus (intro wS hSw; (try dsimp only at hSw); go_simp; (try with_reducible rfl); (try (first | (rw [if_pos (by omega)]; (try go_simp); (try with_reducible rfl)) | (rw [if_neg (by omega)]; (try go_simp); (try with_reducible rfl)))))
      try simp only [Act.put, List.setIfInBounds_toArray, List.set_cons_zero, List.set_cons_succ]
      refine wpAnyR_takeQ (i := 7) (v := ?_) (some 27) rfl rfl (by kernel_rfl) (by kernel_rfl) (by kernel_rfl) (by kernel_rfl) (fun _ _ _ h => h) (Or.inl ⟨by rfl, ?_⟩) ?_
      rotate_left
      focus (intro wS hSw; (try dsimp only at hSw); go_simp; (try with_reducible rfl); (try (first | (rw [if_pos (by omega)]; (try go_simp); (try with_reducible rfl)) | (rw [if_neg (by omega)]; (try go_simp); (try with_reducible rfl)))))
      try simp only [Act.put, List.setIfInBounds_toArray, List.set_cons_zero, List.set_cons_succ]
      refine wpAnyR_take (i := 8) (v := ?_) [10, 13, 14, 15, 16, 17, 18, 19, 20, 21, 22, 23, 24, 25, 26, 27, 28, 29, 30] (some 28) rfl rfl (by kernel_rfl) (by kernel_rfl) (by kernel_rfl) (by kernel_rfl) (by kernel_rfl) (by kernel_rfl) (by kernel_rfl) (fun _ _ _ h => h) (Or.inl ⟨by rfl, ?_⟩) hS ?_
      rotate_left
      focus (intro wS hSw; (try dsimp only at hSw); go_simp; (try with_reducible rfl); (try (first | (rw [if_pos (by omega)]; (try go_simp); (try with_reducible rfl)) | (rw [if_neg (by omega)]; (try go_simp); (try with_reducible rfl)))))
      try simp only [Act.put, List.setIfInBounds_toArray, List.set_cons_zero, List.set_cons_succ]
      refine wpAnyR_take (i := 9) (v := ?_) [10, 13, 14, 15, 16, 17, 18, 19, 20, 21, 22, 23, 24, 25, 26, 27, 28, 29, 30] (some 29) rfl rfl (by kernel_rfl) (by kernel_rfl) (by kernel_rfl) (by kernel_rfl) (by kernel_rfl) (by kernel_rfl) (by kernel_rfl) (fun _ _ _ h => h) (Or.inl ⟨by rfl, ?_⟩) hS ?_
      rotate_left
      focus (intro wS hSw; (try dsimp only at hSw); go_simp; (try with_reducible rfl); (try (first | (rw [if_pos (by omega)]; (try go_simp); (try with_reducible rfl)) | (rw [if_neg (by omega)]; (try go_simp); (try with_reducible rfl)))))
      try simp only [Act.put, List.setIfInBounds_toArray, List.set_cons_zero, List.set_cons_succ]
      refine wpAnyR_take (i := 11) (v := ?_) [13, 14, 15, 16, 17, 18, 19, 20, 21, 22, 23, 24, 25, 26, 27, 28, 29, 30] (some 31) rfl rfl (by kernel_rfl) (by kernel_rfl) (by kernel_rfl) (by kernel_rfl) (by kernel_rfl) (by kernel_rfl) (by kernel_rfl) (fun _ _ _ h => h) (Or.inl ⟨by rfl, ?_⟩) hS ?_
      rotate_left
      focus (intro wS hSw; (try dsimp only at hSw); go_simp; (try with_reducible rfl); (try (first | (rw [if_pos (by omega)]; (try go_simp); (try with_reducible rfl)) | (rw [if_neg (by omega)]; (try go_simp); (try with_reducible rfl)))))
      try simp only [Act.put, List.setIfInBounds_toArray, List.set_cons_zero, List.set_cons_succ]
      refine wpAnyR_take (i := 12) (v := ?_) [13, 14, 15, 16, 17, 18, 19, 20, 21, 22, 23, 24, 25, 26, 27, 28, 29, 30] (some 32) rfl rfl (by kernel_rfl) (by kernel_rfl) (by kernel_rfl) (by kernel_rfl) (by kernel_rfl) (by kernel_rfl) (by kernel_rfl) (fun _ _ _ h => h) (Or.inl ⟨by rfl, ?_⟩) hS ?_
      rotate_left
      focus (intro wS hSw; (try dsimp only at hSw); go_simp; (try with_reducible rfl); (try (first | (rw [if_pos (by omega)]; (try go_simp); (try with_reducible rfl)) | (rw [if_neg (by omega)]; (try go_simp); (try with_reducible rfl)))))
      try simp only [Act.put, List.setIfInBounds_toArray, List.set_cons_zero, List.set_cons_succ]
      refine wpAnyR_n1 (i := 10) rfl (by kernel_rfl) ?_
      intro K' hK
      rw [if_pos (by rfl)]
      simp only [List.getElem_toArray, List.getElem_cons_succ, List.getElem_cons_zero]
      go_wp2_with fail
      refine (HQ.out _ (HG0.out.trans hG)).mono ?_
      rintro e ws ⟨rfl, gs⟩
      replace hG := hG.trans gs
      clear gs
      go_wp2_with fail
      refine hK.out _ _ (.inr (fun _ => ⟨(HBL.out.grew hG).cell 0, (HBL.out.grew hG).cell 1, (HBL.out.grew hG).cell 2, (HBL.out.grew hG).cell 3, (HBL.out.grew hG).cell 4, (HBK.out.grew hG).cell 0, (HBK.out.grew hG).cell 1, (HBK.out.grew hG).cell 2, (HBK.out.grew hG).cell 3, (HBK.out.grew hG).cell 4⟩)) ?_
      clear hK hS
      have hS := (show (fun w' : World => w'.cell? ⟨w.heap.size, 0, none⟩ = some (.int .i64 l.id) ∧ w'.cell? ⟨w.heap.size, 1, none⟩ = some (.int .i64 l.unit) ∧ w'.cell? ⟨w.heap.size, 2, none⟩ = some (.string l.name) ∧ w'.cell? ⟨w.heap.size, 3, none⟩ = some (.string l.note) ∧ w'.cell? ⟨w.heap.size, 4, none⟩ = some (.slice A l.ext.length c) ∧ w'.cell? ⟨w.heap.size + 1, 0, none⟩ = some (.int .i64 k.id) ∧ w'.cell? ⟨w.heap.size + 1, 1, none⟩ = some (.int .i64 k.unit) ∧ w'.cell? ⟨w.heap.size + 1, 2, none⟩ = some (.string k.name) ∧ w'.cell? ⟨w.heap.size + 1, 3, none⟩ = some (.string k.note) ∧ w'.cell? ⟨w.heap.size + 1, 4, none⟩ = some (.slice B k.ext.length d)) ws from ⟨(HBL.out.grew hG).cell 0, (HBL.out.grew hG).cell 1, (HBL.out.grew hG).cell 2, (HBL.out.grew hG).cell 3, (HBL.out.grew hG).cell 4, (HBK.out.grew hG).cell 0, (HBK.out.grew hG).cell 1, (HBK.out.grew hG).cell 2, (HBK.out.grew hG).cell 3, (HBK.out.grew hG).cell 4⟩)
      refine wpAnyR_n1 (i := 13) rfl (by kernel_rfl) ?_
      intro K' hK
      rw [if_pos (by rfl)]
      simp only [List.getElem_toArray, List.getElem_cons_succ, List.getElem_cons_zero]
      go_wp2_with fail
      refine (HRQ.out _ (HG0.out.trans hG)).mono ?_
      rintro e ws ⟨rfl, gs⟩
      replace hG := hG.trans gs
      clear gs
      go_wp2_with fail
      refine hK.out _ _ (.inr (fun _ => ⟨(HBL.out.grew hG).cell 0, (HBL.out.grew hG).cell 1, (HBL.out.grew hG).cell 2, (HBL.out.grew hG).cell 3, (HBL.out.grew hG).cell 4, (HBK.out.grew hG).cell 0, (HBK.out.grew hG).cell 1, (HBK.out.grew hG).cell 2, (HBK.out.grew hG).cell 3, (HBK.out.grew hG).cell 4⟩)) ?_
      clear hK hS
      have hS := (show (fun w' : World => w'.cell? ⟨w.heap.size, 0, none⟩ = some (.int .i64 l.id) ∧ w'.cell? ⟨w.heap.size, 1, none⟩ = some (.int .i64 l.unit) ∧ w'.cell? ⟨w.heap.size, 2, none⟩ = some (.string l.name) ∧ w'.cell? ⟨w.heap.size, 3, none⟩ = some (.string l.note) ∧ w'.cell? ⟨w.heap.size, 4, none⟩ = some (.slice A l.ext.length c) ∧ w'.cell? ⟨w.heap.size + 1, 0, none⟩ = some (.int .i64 k.id) ∧ w'.cell? ⟨w.heap.size + 1, 1, none⟩ = some (.int .i64 k.unit) ∧ w'.cell? ⟨w.heap.size + 1, 2, none⟩ = some (.string k.name) ∧ w'.cell? ⟨w.heap.size + 1, 3, none⟩ = some (.string k.note) ∧ w'.cell? ⟨w.heap.size + 1, 4, none⟩ = some (.slice B k.ext.length d)) ws from ⟨(HBL.out.grew hG).cell 0, (HBL.out.grew hG).cell 1, (HBL.out.grew hG).cell 2, (HBL.out.grew hG).cell 3, (HBL.out.grew hG).cell 4, (HBK.out.grew hG).cell 0, (HBK.out.grew hG).cell 1, (HBK.out.grew hG).cell 2, (HBK.out.grew hG).cell 3, (HBK.out.grew hG).cell 4⟩)
      refine wpAnyR_takeQ (i := 14) (v := ?_) (some 34) rfl rfl (by kernel_rfl) (by kernel_rfl) (by kernel_rfl) (by kernel_rfl) (fun _ _ _ h => h) (Or.inl ⟨by rfl, ?_⟩) ?_
      rotate_left
      focus (intro wS hSw; (try dsimp only at hSw); go_simp; (try with_reducible rfl); (try (first | (rw [if_pos (by omega)]; (try go_simp); (try with_reducible rfl)) | (rw [if_neg (by omega)]; (try go_simp); (try with_reducible rfl)))))
      try simp only [Act.put, List.setIfInBounds_toArray, List.set_cons_zero, List.set_cons_succ]
      refine wpAnyR_takeQ (i := 15) (v := ?_) (some 35) rfl rfl (by kernel_rfl) (by kernel_rfl) (by kernel_rfl) (by kernel_rfl) (fun _ _ _ h => h) (Or.inl ⟨by rfl, ?_⟩) ?_
      rotate_left
      focus (intro wS hSw; (try dsimp only at hSw); go_simp; (try with_reducible rfl); (try (first | (rw [if_pos (by omega)]; (try go_simp); (try with_reducible rfl)) | (rw [if_neg (by omega)]; (try go_simp); (try with_reducible rfl)))))
      try simp only [Act.put, List.setIfInBounds_toArray, List.set_cons_zero, List.set_cons_succ]
      refine wpAnyR_takeQ (i := 16) (v := ?_) (some 36) rfl rfl (by kernel_rfl) (by kernel_rfl) (by kernel_rfl) (by kernel_rfl) (fun _ _ _ h => h) (Or.inl ⟨by rfl, ?_⟩) ?_
      rotate_left
      focus (intro wS hSw; (try dsimp only at hSw); go_simp; (try with_reducible rfl); (try (first | (rw [if_pos (by omega)]; (try go_simp); (try with_reducible rfl)) | (rw [if_neg (by omega)]; (try go_simp); (try with_reducible rfl)))))
      try simp only [Act.put, List.setIfInBounds_toArray, List.set_cons_zero, List.set_cons_succ]
      refine wpAnyR_take (i := 17) (v := ?_) [19, 20, 21, 22, 23, 24, 25, 26, 27, 28, 29, 30] (some 37) rfl rfl (by kernel_rfl) (by kernel_rfl) (by kernel_rfl) (by kernel_rfl) (by kernel_rfl) (by kernel_rfl) (by kernel_rfl) (fun _ _ _ h => h) (Or.inl ⟨by rfl, ?_⟩) hS ?_
      rotate_left
      focus (intro wS hSw; (try dsimp only at hSw); go_simp; (try with_reducible rfl); (try (first | (rw [if_pos (by omega)]; (try go_simp); (try with_reducible rfl)) | (rw [if_neg (by omega)]; (try go_simp); (try with_reducible rfl)))))
      try simp only [Act.put, List.setIfInBounds_toArray, List.set_cons_zero, List.set_cons_succ]
      refine wpAnyR_take (i := 18) (v := ?_) [19, 20, 21, 22, 23, 24, 25, 26, 27, 28, 29, 30] (some 38) rfl rfl (by kernel_rfl) (by kernel_rfl) (by kernel_rfl) (by kernel_rfl) (by kernel_rfl) (by kernel_rfl) (by kernel_rfl) (fun _ _ _ h => h) (Or.inl ⟨by rfl, ?_⟩) hS ?_
      rotate_left
      focus (intro wS hSw; (try dsimp only at hSw); go_simp; (try with_reducible rfl); (try (first | (rw [if_pos (by omega)]; (try go_simp); (try with_reducible rfl)) | (rw [if_neg (by omega)]; (try go_simp); (try with_reducible rfl)))))
      try simp only [Act.put, List.setIfInBounds_toArray, List.set_cons_zero, List.set_cons_succ]
      refine wpAnyR_n1 (i := 19) rfl (by kernel_rfl) ?_
      intro K' hK
      rw [if_pos (by rfl)]
      simp only [List.getElem_toArray, List.getElem_cons_succ, List.getElem_cons_zero]
      go_wp2_with fail
      refine (HQL.out _ (HG0.out.trans hG)).mono ?_
      rintro e ws ⟨rfl, gs⟩
      replace hG := hG.trans gs
      clear gs
      go_wp2_with fail
      refine hK.out _ _ (.inr (fun _ => ⟨(HBL.out.grew hG).cell 0, (HBL.out.grew hG).cell 1, (HBL.out.grew hG).cell 2, (HBL.out.grew hG).cell 3, (HBL.out.grew hG).cell 4, (HBK.out.grew hG).cell 0, (HBK.out.grew hG).cell 1, (HBK.out.grew hG).cell 2, (HBK.out.grew hG).cell 3, (HBK.out.grew hG).cell 4⟩)) ?_
      clear hK hS
      have hS := (show (fun w' : World => w'.cell? ⟨w.heap.size, 0, none⟩ = some (.int .i64 l.id) ∧ w'.cell? ⟨w.heap.size, 1, none⟩ = some (.int .i64 l.unit) ∧ w'.cell? ⟨w.heap.size, 2, none⟩ = some (.string l.name) ∧ w'.cell? ⟨w.heap.size, 3, none⟩ = some (.string l.note) ∧ w'.cell? ⟨w.heap.size, 4, none⟩ = some (.slice A l.ext.length c) ∧ w'.cell? ⟨w.heap.size + 1, 0, none⟩ = some (.int .i64 k.id) ∧ w'.cell? ⟨w.heap.size + 1, 1, none⟩ = some (.int .i64 k.unit) ∧ w'.cell? ⟨w.heap.size + 1, 2, none⟩ = some (.string k.name) ∧ w'.cell? ⟨w.heap.size + 1, 3, none⟩ = some (.string k.note) ∧ w'.cell? ⟨w.heap.size + 1, 4, none⟩ = some (.slice B k.ext.length d)) ws from ⟨(HBL.out.grew hG).cell 0, (HBL.out.grew hG).cell 1, (HBL.out.grew hG).cell 2, (HBL.out.grew hG).cell 3, (HBL.out.grew hG).cell 4, (HBK.out.grew hG).cell 0, (HBK.out.grew hG).cell 1, (HBK.out.grew hG).cell 2, (HBK.out.grew hG).cell 3, (HBK.out.grew hG).cell 4⟩)
      refine wpAnyR_takeQ (i := 20) (v := ?_) (some 40) rfl rfl (by kernel_rfl) (by kernel_rfl) (by kernel_rfl) (by kernel_rfl) (fun _ _ _ h => h) (Or.inl ⟨by rfl, ?_⟩) ?_
      rotate_left
      focus (intro wS hSw; (try dsimp only at hSw); go_simp; (try with_reducible rfl); (try (first | (rw [if_pos (by omega)]; (try go_simp); (try with_reducible rfl)) | (rw [if_neg (by omega)]; (try go_simp); (try with_reducible rfl)))))
      try simp only [Act.put, List.setIfInBounds_toArray, List.set_cons_zero, List.set_cons_succ]
      refine wpAnyR_takeQ (i := 21) (v := ?_) (some 41) rfl rfl (by kernel_rfl) (by kernel_rfl) (by kernel_rfl) (by kernel_rfl) (fun _ _ _ h => h) (Or.inl ⟨by rfl, ?_⟩) ?_
      rotate_left
      focus (intro wS hSw; (try dsimp only at hSw); go_simp; (try with_reducible rfl); (try (first | (rw [if_pos (by omega)]; (try go_simp); (try with_reducible rfl)) | (rw [if_neg (by omega)]; (try go_simp); (try with_reducible rfl)))))
      try simp only [Act.put, List.setIfInBounds_toArray, List.set_cons_zero, List.set_cons_succ]
      refine wpAnyR_take (i := 22) (v := ?_) [24, 27, 28, 29, 30] (some 42) rfl rfl (by kernel_rfl) (by kernel_rfl) (by kernel_rfl) (by kernel_rfl) (by kernel_rfl) (by kernel_rfl) (by kernel_rfl) (fun _ _ _ h => h) (Or.inl ⟨by rfl, ?_⟩) hS ?_
      rotate_left
      focus (intro wS hSw; (try dsimp only at hSw); go_simp; (try with_reducible rfl); (try (first | (rw [if_pos (by omega)]; (try go_simp); (try with_reducible rfl)) | (rw [if_neg (by omega)]; (try go_simp); (try with_reducible rfl)))))
      try simp only [Act.put, List.setIfInBounds_toArray, List.set_cons_zero, List.set_cons_succ]
      refine wpAnyR_takeQ (i := 23) (v := ?_) (some 43) rfl rfl (by kernel_rfl) (by kernel_rfl) (by kernel_rfl) (by kernel_rfl) (fun _ _ _ h => h) (Or.inl ⟨by rfl, ?_⟩) ?_
      rotate_left
      focus (intro wS hSw; (try dsimp only at hSw); go_simp; (try with_reducible rfl); (try (first | (rw [if_pos (by omega)]; (try go_simp); (try with_reducible rfl)) | (rw [if_neg (by omega)]; (try go_simp); (try with_reducible rfl)))))
      try simp only [Act.put, List.setIfInBounds_toArray, List.set_cons_zero, List.set_cons_succ]
      refine wpAnyR_take (i := 25) (v := ?_) [27, 28, 29, 30] (some 45) rfl rfl (by kernel_rfl) (by kernel_rfl) (by kernel_rfl) (by kernel_rfl) (by kernel_rfl) (by kernel_rfl) (by kernel_rfl) (fun _ _ _ h => h) (Or.inl ⟨by rfl, ?_⟩) hS ?_
      rotate_left
      focus (intro wS hSw; (try dsimp only at hSw); go_simp; (try with_reducible rfl); (try (first | (rw [if_pos (by omega)]; (try go_simp); (try with_reducible rfl)) | (rw [if_neg (by omega)]; (try go_simp); (try with_reducible rfl)))))
      try simp only [Act.put, List.setIfInBounds_toArray, List.set_cons_zero, List.set_cons_succ]
      refine wpAnyR_takeQ (i := 26) (v := ?_) (some 46) rfl rfl (by kernel_rfl) (by kernel_rfl) (by kernel_rfl) (by kernel_rfl) (fun _ _ _ h => h) (Or.inl ⟨by rfl, ?_⟩) ?_
      rotate_left
      focus (intro wS hSw; (try dsimp only at hSw); go_simp; (try with_reducible rfl); (try (first | (rw [if_pos (by omega)]; (try go_simp); (try with_reducible rfl)) | (rw [if_neg (by omega)]; (try go_simp); (try with_reducible rfl)))))
      try simp only [Act.put, List.setIfInBounds_toArray, List.set_cons_zero, List.set_cons_succ]
      refine wpAnyR_n1 (i := 24) rfl (by kernel_rfl) ?_
      intro K' hK
      rw [if_pos (by rfl)]
      simp only [List.getElem_toArray, List.getElem_cons_succ, List.getElem_cons_zero]
      go_wp2_with fail
      refine (HEL.out _ (HG0.out.trans hG)).mono ?_
      rintro e ws ⟨rfl, gs⟩
      replace hG := hG.trans gs
      clear gs
      go_wp2_with fail
      refine hK.out _ _ (.inr (fun _ => ⟨(HBL.out.grew hG).cell 0, (HBL.out.grew hG).cell 1, (HBL.out.grew hG).cell 2, (HBL.out.grew hG).cell 3, (HBL.out.grew hG).cell 4, (HBK.out.grew hG).cell 0, (HBK.out.grew hG).cell 1, (HBK.out.grew hG).cell 2, (HBK.out.grew hG).cell 3, (HBK.out.grew hG).cell 4⟩)) ?_
      clear hK hS
      have hS := (show (fun w' : World => w'.cell? ⟨w.heap.size, 0, none⟩ = some (.int .i64 l.id) ∧ w'.cell? ⟨w.heap.size, 1, none⟩ = some (.int .i64 l.unit) ∧ w'.cell? ⟨w.heap.size, 2, none⟩ = some (.string l.name) ∧ w'.cell? ⟨w.heap.size, 3, none⟩ = some (.string l.note) ∧ w'.cell? ⟨w.heap.size, 4, none⟩ = some (.slice A l.ext.length c) ∧ w'.cell? ⟨w.heap.size + 1, 0, none⟩ = some (.int .i64 k.id) ∧ w'.cell? ⟨w.heap.size + 1, 1, none⟩ = some (.int .i64 k.unit) ∧ w'.cell? ⟨w.heap.size + 1, 2, none⟩ = some (.string k.name) ∧ w'.cell? ⟨w.heap.size + 1, 3, none⟩ = some (.string k.note) ∧ w'.cell? ⟨w.heap.size + 1, 4, none⟩ = some (.slice B k.ext.length d)) ws from ⟨(HBL.out.grew hG).cell 0, (HBL.out.grew hG).cell 1, (HBL.out.grew hG).cell 2, (HBL.out.grew hG).cell 3, (HBL.out.grew hG).cell 4, (HBK.out.grew hG).cell 0, (HBK.out.grew hG).cell 1, (HBK.out.grew hG).cell 2, (HBK.out.grew hG).cell 3, (HBK.out.grew hG).cell 4⟩)
      refine wpAnyR_n1 (i := 27) rfl (by kernel_rfl) ?_
      intro K' hK
      rw [if_pos (by rfl)]
      simp only [List.getElem_toArray, List.getElem_cons_succ, List.getElem_cons_zero]
      go_wp2_with fail
      refine (HREL.out _ (HG0.out.trans hG)).mono ?_
      rintro e ws ⟨rfl, gs⟩
      replace hG := hG.trans gs
      clear gs
      go_wp2_with fail
      refine hK.out _ _ (.inr (fun _ => ⟨(HBL.out.grew hG).cell 0, (HBL.out.grew hG).cell 1, (HBL.out.grew hG).cell 2, (HBL.out.grew hG).cell 3, (HBL.out.grew hG).cell 4, (HBK.out.grew hG).cell 0, (HBK.out.grew hG).cell 1, (HBK.out.grew hG).cell 2, (HBK.out.grew hG).cell 3, (HBK.out.grew hG).cell 4⟩)) ?_
      clear hK hS
      have hS := (show (fun w' : World => w'.cell? ⟨w.heap.size, 0, none⟩ = some (.int .i64 l.id) ∧ w'.cell? ⟨w.heap.size, 1, none⟩ = some (.int .i64 l.unit) ∧ w'.cell? ⟨w.heap.size, 2, none⟩ = some (.string l.name) ∧ w'.cell? ⟨w.heap.size, 3, none⟩ = some (.string l.note) ∧ w'.cell? ⟨w.heap.size, 4, none⟩ = some (.slice A l.ext.length c) ∧ w'.cell? ⟨w.heap.size + 1, 0, none⟩ = some (.int .i64 k.id) ∧ w'.cell? ⟨w.heap.size + 1, 1, none⟩ = some (.int .i64 k.unit) ∧ w'.cell? ⟨w.heap.size + 1, 2, none⟩ = some (.string k.name) ∧ w'.cell? ⟨w.heap.size + 1, 3, none⟩ = some (.string k.note) ∧ w'.cell? ⟨w.heap.size + 1, 4, none⟩ = some (.slice B k.ext.length d)) ws from ⟨(HBL.out.grew hG).cell 0, (HBL.out.grew hG).cell 1, (HBL.out.grew hG).cell 2, (HBL.out.grew hG).cell 3, (HBL.out.grew hG).cell 4, (HBK.out.grew hG).cell 0, (HBK.out.grew hG).cell 1, (HBK.out.grew hG).cell 2, (HBK.out.grew hG).cell 3, (HBK.out.grew hG).cell 4⟩)
      refine wpAnyR_takeQ (i := 28) (v := ?_) (some 48) rfl rfl (by kernel_rfl) (by kernel_rfl) (by kernel_rfl) (by kernel_rfl) (fun _ _ _ h => h) (Or.inl ⟨by rfl, ?_⟩) ?_
      rotate_left
      focus (intro wS hSw; (try dsimp only at hSw); go_simp; (try with_reducible rfl); (try (first | (rw [if_pos (by omega)]; (try go_simp); (try with_reducible rfl)) | (rw [if_neg (by omega)]; (try go_simp); (try with_reducible rfl)))))
      try simp only [Act.put, List.setIfInBounds_toArray, List.set_cons_zero, List.set_cons_succ]
      refine wpAnyR_takeQ (i := 29) (v := ?_) (some 49) rfl rfl (by kernel_rfl) (by kernel_rfl) (by kernel_rfl) (by kernel_rfl) (fun _ _ _ h => h) (Or.inl ⟨by rfl, ?_⟩) ?_
      rotate_left
      focus (intro wS hSw; (try dsimp only at hSw); go_simp; (try with_reducible rfl); (try (first | (rw [if_pos (by omega)]; (try go_simp); (try with_reducible rfl)) | (rw [if_neg (by omega)]; (try go_simp); (try with_reducible rfl)))))
      try simp only [Act.put, List.setIfInBounds_toArray, List.set_cons_zero, List.set_cons_succ]
      refine wpAnyR_takeQ (i := 30) (v := ?_) (some 6) rfl rfl (by kernel_rfl) (by kernel_rfl) (by kernel_rfl) (by kernel_rfl) (fun _ _ _ h => h) (Or.inl ⟨by rfl, ?_⟩) ?_
      rotate_left
      focus (intro wS hSw; (try dsimp only at hSw); go_simp; (try with_reducible rfl); (try (first | (rw [if_pos (by omega)]; (try go_simp); (try with_reducible rfl)) | (rw [if_neg (by omega)]; (try go_simp); (try with_reducible rfl)))))
      try simp only [Act.put, List.setIfInBounds_toArray, List.set_cons_zero, List.set_cons_succ]
      refine wpAnyR_done (by kernel_rfl) ?_ _
      go_wp2_with fail
      go_ret
      exact ⟨rfl, HG0.out.trans hG⟩
end Go.Proofs.Ytkiciojipiakoaa
