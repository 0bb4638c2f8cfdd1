/- The reference's Put. -/
import Derived.Test.YtfmhiocigoejjaaBufV
namespace Go.Proofs.Ytfmhiocigoejjaa
set_option linter.unusedVariables false
set_option linter.unusedSimpArgs false
set_option linter.unusedSectionVars false
open Go.RowKit
theorem rmv_absent (L : List Pg) (p : Place) (h : look L p = none) : rmv L p = L := by
  unfold rmv
  refine List.filter_eq_self.2 fun y hy => ?_
  rw [Bool.not_eq_true', decide_eq_false_iff_not]
  rintro rfl
  obtain ⟨c, hc⟩ := look_mem L y.1 (List.mem_map_of_mem hy)
  rw [h] at hc
  cases hc
section
variable (cap : Int) (A : Option Addr) (c : Nat) (h ms : Int) (L : List Pg) (a b : Int)
set_option maxRecDepth 100000 in
set_option maxHeartbeats 4000000 in
theorem rput_any (s : ByteArray) (u : Int) (w : World) (B : Nat) (hB : B ≤ w.heap.size) (hp : PgsAt w B A L) (hl : L.length ≤ 10000) (hc : L.length ≤ c) (hc9 : c ≤ 9223372036854775807) (hcap : (L.length : Int) ≤ cap) (hcap2 : cap ≤ 4096) (hnd : (keys L).Nodup) :
    Calls Try.prog 30 #[.agg #[.int .i64 cap, .slice A L.length c, .int .i64 h, .int .i64 ms], .int .i64 a, .int .i64 b, .string s, .int .i64 u] w fun e w' => ∃ A' c', e = .returned (.agg #[.int .i64 cap, .slice A' (putS cap L (a, b) (s, u)).length c', .int .i64 h, .int .i64 ms]) ∧ OwnL w' w.heap.size 70 4 (.slice A' (putS cap L (a, b) (s, u)).length c') ((putS cap L (a, b) (s, u)).map pgC) ∧ (putS cap L (a, b) (s, u)).length ≤ c' ∧ c' ≤ 9223372036854775807 ∧ Grew w w' := by
  have ga := ((Grew.refl w).alloc (.cells #[.int .i64 cap, .slice A L.length c, .int .i64 h, .int .i64 ms] 54)).alloc (.cells #[.int .i64 0, .slice none 0 0, .int .i64 0, .int .i64 0] 54)
  have HF := Lib.hid (find_any cap A c h ms L a b _ B (Nat.le_trans hB ga.size) (hp.hold hB ga) (by omega))
  have hbx := (Blk.new w 54 #[.int .i64 cap, .slice A L.length c, .int .i64 h, .int .i64 ms] rfl).alloc (.cells #[.int .i64 0, .slice none 0 0, .int .i64 0, .int .i64 0] 54)
  have hrx := (Blk.new (w.alloc (.cells #[.int .i64 cap, .slice A L.length c, .int .i64 h, .int .i64 ms] 54)) 54 #[.int .i64 0, .slice none 0 0, .int .i64 0, .int .i64 0] (n := w.heap.size + 1) (by simp))
  have HPG := Lib.hid (hp.hold hB ga)
  have HND := Lib.hid hnd
  clear hp hnd
  go_enter Try.func30, Try.ntmps30
  go_wp2_with fail
  refine HF.out.mono ?_
  rintro e w1 ⟨hf, g1⟩
  have hbx1 := hbx.grew g1
  have hrx1 := hrx.grew g1
  have hg1 := ga.trans g1
  have hz1 : w.heap.size + 2 ≤ w1.heap.size := by have := g1.size; simpa using this
  have hB1 : B ≤ w1.heap.size := by omega
  have HP1 := Lib.hid (HPG.out.hold (Nat.le_trans hB ga.size) g1)
  have x0 := hbx1.cell 0
  have x1 := hbx1.cell 1
  have x2 := hbx1.cell 2
  have x3 := hbx1.cell 3
  clear HF HPG hbx hrx g1
  rcases hf with hf | ⟨rfl, he⟩
  · obtain ⟨i, hi, rfl, he⟩ := hf
    obtain ⟨ct, hk⟩ := look_mem L (a, b) (by rw [← he]; exact List.mem_map_of_mem (List.getElem_mem hi))
    have HER := Lib.hid (erase_rmv L (a, b) HND.out i hi he)
    have HRM := Lib.hid (remove_any cap _ c h ms L w1 B hB1 HP1.out (by omega) hc hc9 i hi)
    have hrl := rmv_lt L (a, b) (look_some_mem L (a, b) _ hk)
    have hin : (0 : Int) ≤ (i : Int) := by omega
    clear hk he
    go_wp2_with fail
    refine HRM.out.mono ?_
    rintro e w2 ⟨A2, c2, rfl, hown2, hc2, hc29, g2⟩
    rw [HER.out] at hown2 hc2 ⊢
    obtain ⟨M, hM⟩ : ∃ M, rmv L (a, b) = M := ⟨_, rfl⟩
    have HMM := Lib.hid hM
    rw [hM] at hown2 hc2 hrl ⊢
    have hbx2 := hbx1.grew g2
    have hrx2 := hrx1.grew g2
    have hg2 := hg1.trans g2
    have hz2 := g2.size
    have f0 := hbx2.frozen 0
    have f1 := hbx2.frozen 1
    have f2 := hbx2.frozen 2
    have f3 := hbx2.frozen 3
    have y0 := hbx2.cell 0
    have y1 := hbx2.cell 1
    have y2 := hbx2.cell 2
    have y3 := hbx2.cell 3
    clear hM x0 x1 x2 x3 HRM HER HP1
    go_upto_region 4 with (fail)
    obtain ⟨w3, hw3⟩ : ∃ w3, w3 = ((((w2.setCell ⟨w.heap.size, 0, none⟩ (.int .i64 cap)).setCell ⟨w.heap.size, 1, none⟩ (.slice A2 M.length c2)).setCell ⟨w.heap.size, 2, none⟩ (.int .i64 h)).setCell ⟨w.heap.size, 3, none⟩ (.int .i64 ms)) := ⟨_, rfl⟩
    have hT3 : Turned (fun k => k = w.heap.size) w2 w3 := by
      rw [hw3]
      exact (((((Turned.refl (fun k => k = w.heap.size) w2).setCell (p := ⟨w.heap.size, 0, none⟩) (fun _ => rfl) _).setCell (p := ⟨w.heap.size, 1, none⟩) (fun _ => rfl) _).setCell (p := ⟨w.heap.size, 2, none⟩) (fun _ => rfl) _).setCell (p := ⟨w.heap.size, 3, none⟩) (fun _ => rfl) _)
    have hbx3 : Blk w3 w.heap.size 54 #[.int .i64 cap, .slice A2 M.length c2, .int .i64 h, .int .i64 ms] := by
      rw [hw3]
      exact (((hbx2.set_ 0 _).set_ 1 _).set_ 2 _).set_ 3 _
    have hrx3 := hrx2.turned hT3 (by omega)
    have HP3 : Hid (PgsAt w3 w3.heap.size A2 M) := Lib.hid (hown2.kept hT3 (fun g hg hs => by have := (hown2.own_ge hg).1; omega)).listA
    have hg3 : Grew w w3 := hg2.turn hT3 (fun k hk => by omega)
    have hMl : M.length + 1 ≤ L.length := hrl
    have hov : ¬ cap < (M.length : Int) + 1 := by omega
    have HPM := Lib.hid (show putS cap L (a, b) (s, u) = M ++ [((a, b), (s, u))] from by
      unfold putS; rw [HMM.out, if_neg (by omega)])
    have hz3 := hg3.size
    have t1 := hbx3.cell 1
    have tl := hbx3.lt
    have tl2 := hrx3.lt
    rw [← hw3]
    clear hw3 hT3 f0 f1 f2 f3 y0 y1 y2 y3 hown2 hbx1 hrx1 hbx2 hrx2 hi hin hrl
    go_wp2_with (first
      | (refine wpList_pushAll (by rfl) (.tmp 21) (.tmp 23) 52 rfl w3.heap.size 70 4 40 _ Try.underlying52 info_page rfl (by decide) (.slice (some ⟨w3.heap.size, 0, none⟩) 0 0) [] (M.map pgC) (by rfl) (OwnL.empty w3 _ _ _ (Nat.le_refl _) rfl) _ M.length _ (by rfl) (by rw [pgC_len]) (pgC_row _) ((HP3.out.hold (Nat.le_refl _) ((Grew.refl w3).alloc (.cells #[] 70))).mono (by simp)) (pgC_one _) (by simp; omega) (by simp; omega) (by simp) ?_; intro v1 w4 hown4 hgr4 hat4; have g4 : Grew w3 w4 := Grew.own ((Grew.refl w3).alloc (.cells #[] 70)) hgr4 (own_one _ _ _) (Nat.le_refl _); clear hgr4 hat4)
      | (refine wpList_push2 rfl (.tmp 24) (.tmp 31) 52 rfl w3.heap.size 70 4 40 _ Try.underlying52 info_page rfl (by decide) _ v1 ([] ++ M.map pgC) (pgC ((a, b), (s, u))) rfl rfl (hown4.alloc _) w4.heap.size (by rfl) (Blk.new _ _ _ rfl) rfl (by rw [List.nil_append, pgC_len]; omega) (by rw [List.nil_append, pgC_len]; omega) (Nat.le_trans g4.size (by simp)) M.length (by rw [List.nil_append, pgC_len]) ?_; intro g5 c5 w5 hown5 hgr5 hat5 hlt5; have g5' : Grew w3 w5 := Grew.own (g4.alloc (.cells #[.int .i64 a, .int .i64 b, .string s, .int .i64 u] 70)) hgr5 hown4.row_ge (Nat.le_refl _); have z0 := (hbx3.grew g5').cell 0; have z1 := (hbx3.grew g5').cell 1; have z2 := (hbx3.grew g5').cell 2; have z3 := (hbx3.grew g5').cell 3; have zf0 := (hbx3.grew g5').frozen 0; have zf1 := (hbx3.grew g5').frozen 1; have zf2 := (hbx3.grew g5').frozen 2; have zf3 := (hbx3.grew g5').frozen 3; have r0 := (hrx3.grew g5').cell 0; have r1 := (hrx3.grew g5').cell 1; have r2 := (hrx3.grew g5').cell 2; have r3 := (hrx3.grew g5').cell 3; have q0 := (hrx3.grew g5').frozen 0; have q1 := (hrx3.grew g5').frozen 1; have q2 := (hrx3.grew g5').frozen 2; have q3 := (hrx3.grew g5').frozen 3; have HO5 := Lib.hid hown5; have hz5 := g5'.size; clear hgr5 hat5 hown5 hown4 g4))
    obtain ⟨w9, hw9⟩ : ∃ w9, w9 = (((((w5.setCell ⟨w.heap.size, 1, none⟩ (.slice (some ⟨g5, 0, none⟩) (M.length + 1) c5)).setCell ⟨w.heap.size + 1, 0, none⟩ (.int .i64 cap)).setCell ⟨w.heap.size + 1, 1, none⟩ (.slice (some ⟨g5, 0, none⟩) (M.length + 1) c5)).setCell ⟨w.heap.size + 1, 2, none⟩ (.int .i64 h)).setCell ⟨w.heap.size + 1, 3, none⟩ (.int .i64 ms)) := ⟨_, rfl⟩
    have hT9 : Turned (fun k => k = w.heap.size ∨ k = w.heap.size + 1) w5 w9 := by
      rw [hw9]
      exact (((((Turned.refl (fun k => k = w.heap.size ∨ k = w.heap.size + 1) w5).setCell (p := ⟨w.heap.size, 1, none⟩) (fun _ => .inl rfl) _).setCell (p := ⟨w.heap.size + 1, 0, none⟩) (fun _ => .inr rfl) _).setCell (p := ⟨w.heap.size + 1, 1, none⟩) (fun _ => .inr rfl) _).setCell (p := ⟨w.heap.size + 1, 2, none⟩) (fun _ => .inr rfl) _).setCell (p := ⟨w.heap.size + 1, 3, none⟩) (fun _ => .inr rfl) _
    have hO9 := (HO5.out.kept hT9 (fun g hg hs => by have := (HO5.out.own_ge hg).1; omega)).rebase (base' := w.heap.size) hz3
    have hg9 : Grew w w9 := (hg3.trans g5').turn hT9 (fun k hk => by omega)
    have hME : (M ++ [((a, b), (s, u))]).length = M.length + 1 := by simp
    refine bodyPost_ret (by first | (simp [*, results, Try.results30, go_sem]; rfl) | simp [*, results, Try.results30, go_sem]) rfl ?_
    rw [← hw9, HPM.out]
    refine ⟨some ⟨g5, 0, none⟩, c5, by rw [hME], ?_, by rw [hME]; exact hO9.len.2.1, hO9.len.2.2, hg9⟩
    rw [hME, List.map_append]
    rw [List.nil_append] at hO9
    exact hO9
  · have hk := look_none L (a, b) he
    have HMM := Lib.hid (rmv_absent L (a, b) hk)
    obtain ⟨M, hM⟩ : ∃ M, M = L := ⟨_, rfl⟩
    subst hM
    obtain ⟨w3, rfl⟩ : ∃ w3, w3 = w1 := ⟨_, rfl⟩
    have hbx3 := hbx1
    have hrx3 := hrx1
    have HP3 : Hid (PgsAt w3 w3.heap.size A M) := Lib.hid (HP1.out.mono hB1)
    have hg3 := hg1
    have hz3 := hg3.size
    have t1 := hbx3.cell 1
    have tl := hbx3.lt
    have tl2 := hrx3.lt
    clear hk he hbx1 hrx1 HP1 x0 x1 x2 x3
    by_cases hov : cap < (M.length : Int) + 1
    · have HPM := Lib.hid (show putS cap M (a, b) (s, u) = (M ++ [((a, b), (s, u))]).eraseIdx 0 from by
        unfold putS; rw [HMM.out, if_pos (by omega), List.drop_one, List.eraseIdx_zero])
      go_upto_region 4 with (fail)
      go_wp2_with (first
        | (refine wpList_pushAll (by rfl) (.tmp 21) (.tmp 23) 52 rfl w3.heap.size 70 4 40 _ Try.underlying52 info_page rfl (by decide) (.slice (some ⟨w3.heap.size, 0, none⟩) 0 0) [] (M.map pgC) (by rfl) (OwnL.empty w3 _ _ _ (Nat.le_refl _) rfl) _ M.length _ (by rfl) (by rw [pgC_len]) (pgC_row _) ((HP3.out.hold (Nat.le_refl _) ((Grew.refl w3).alloc (.cells #[] 70))).mono (by simp)) (pgC_one _) (by simp; omega) (by simp; omega) (by simp) ?_; intro v1 w4 hown4 hgr4 hat4; have g4 : Grew w3 w4 := Grew.own ((Grew.refl w3).alloc (.cells #[] 70)) hgr4 (own_one _ _ _) (Nat.le_refl _); clear hgr4 hat4)
        | (refine wpList_push2 rfl (.tmp 24) (.tmp 31) 52 rfl w3.heap.size 70 4 40 _ Try.underlying52 info_page rfl (by decide) _ v1 ([] ++ M.map pgC) (pgC ((a, b), (s, u))) rfl rfl (hown4.alloc _) w4.heap.size (by rfl) (Blk.new _ _ _ rfl) rfl (by rw [List.nil_append, pgC_len]; omega) (by rw [List.nil_append, pgC_len]; omega) (Nat.le_trans g4.size (by simp)) M.length (by rw [List.nil_append, pgC_len]) ?_; intro g5 c5 w5 hown5 hgr5 hat5 hlt5; have g5' : Grew w3 w5 := Grew.own (g4.alloc (.cells #[.int .i64 a, .int .i64 b, .string s, .int .i64 u] 70)) hgr5 hown4.row_ge (Nat.le_refl _); have z0 := (hbx3.grew g5').cell 0; have z1 := (hbx3.grew g5').cell 1; have z2 := (hbx3.grew g5').cell 2; have z3 := (hbx3.grew g5').cell 3; have zf0 := (hbx3.grew g5').frozen 0; have zf1 := (hbx3.grew g5').frozen 1; have zf2 := (hbx3.grew g5').frozen 2; have zf3 := (hbx3.grew g5').frozen 3; have r0 := (hrx3.grew g5').cell 0; have r1 := (hrx3.grew g5').cell 1; have r2 := (hrx3.grew g5').cell 2; have r3 := (hrx3.grew g5').cell 3; have q0 := (hrx3.grew g5').frozen 0; have q1 := (hrx3.grew g5').frozen 1; have q2 := (hrx3.grew g5').frozen 2; have q3 := (hrx3.grew g5').frozen 3; have HO5 := Lib.hid hown5; have hz5 := g5'.size; clear hgr5 hat5 hown5 hown4 g4))
      have hT5 : Turned (fun k => k = w.heap.size) w5 (w5.setCell ⟨w.heap.size, 1, none⟩ (.slice (some ⟨g5, 0, none⟩) (M.length + 1) c5)) := (Turned.refl (fun k => k = w.heap.size) w5).setCell (p := ⟨w.heap.size, 1, none⟩) (fun _ => rfl) _
      have hME : (M ++ [((a, b), (s, u))]).length = M.length + 1 := by simp
      have hO5 := HO5.out.kept hT5 (fun g hg hs => by have := (HO5.out.own_ge hg).1; omega)
      have hP5 : PgsAt (w5.setCell ⟨w.heap.size, 1, none⟩ (.slice (some ⟨g5, 0, none⟩) (M.length + 1) c5)) (w5.setCell ⟨w.heap.size, 1, none⟩ (.slice (some ⟨g5, 0, none⟩) (M.length + 1) c5)).heap.size (some ⟨g5, 0, none⟩) (M ++ [((a, b), (s, u))]) := by
        have := hO5.listA
        rw [List.nil_append] at this
        unfold PgsAt
        rw [List.map_append]
        exact this
      have hRM := remove_any cap (some ⟨g5, 0, none⟩) c5 h ms (M ++ [((a, b), (s, u))]) _ _ (Nat.le_refl _) hP5 (by omega) (by rw [hME]; exact hO5.len.2.1) hO5.len.2.2 0 (by omega)
      have e0 : ((0 : Nat) : Int) = 0 := rfl
      rw [hME, e0] at hRM
      have hbx5 := (hbx3.grew g5').set_ 1 (.slice (some ⟨g5, 0, none⟩) (M.length + 1) c5)
      have hrx5 := (hrx3.grew g5').far (p := ⟨w.heap.size, 1, none⟩) (by simp) (.slice (some ⟨g5, 0, none⟩) (M.length + 1) c5)
      have hg5 : Grew w (w5.setCell ⟨w.heap.size, 1, none⟩ (.slice (some ⟨g5, 0, none⟩) (M.length + 1) c5)) := (hg3.trans g5').turn hT5 (fun k hk => by omega)
      obtain ⟨N, hN⟩ : ∃ N, (M ++ [((a, b), (s, u))]).eraseIdx 0 = N := ⟨_, rfl⟩
      rw [hN] at hRM
      have HN := Lib.hid (HPM.out.trans hN)
      clear hN hP5 hO5 hME e0 z0 z1 z2 z3 zf0 zf1 zf2 zf3 r0 r1 r2 r3 q0 q1 q2 q3 hT5
      refine hRM.mono ?_
      rintro e w6 ⟨A6, c6, rfl, hown6, hc6, hc69, g6⟩
      have hbx6 := hbx5.grew g6
      have hrx6 := hrx5.grew g6
      have hg6 := hg5.trans g6
      have HO6 := Lib.hid hown6
      have hz6 := hg5.size
      have z0 := hbx6.cell 0
      have z1 := hbx6.cell 1
      have z2 := hbx6.cell 2
      have z3 := hbx6.cell 3
      have zf0 := hbx6.frozen 0
      have zf1 := hbx6.frozen 1
      have zf2 := hbx6.frozen 2
      have zf3 := hbx6.frozen 3
      have r0 := hrx6.cell 0
      have r1 := hrx6.cell 1
      have r2 := hrx6.cell 2
      have r3 := hrx6.cell 3
      have q0 := hrx6.frozen 0
      have q1 := hrx6.frozen 1
      have q2 := hrx6.frozen 2
      have q3 := hrx6.frozen 3
      have hl6 := hrx5.lt
      clear hown6 hRM hbx5 hrx5
      go_wp2_with fail
      obtain ⟨w9, hw9⟩ : ∃ w9, w9 = ((((((((w6.setCell ⟨w.heap.size, 0, none⟩ (.int .i64 cap)).setCell ⟨w.heap.size, 1, none⟩ (.slice A6 N.length c6)).setCell ⟨w.heap.size, 2, none⟩ (.int .i64 h)).setCell ⟨w.heap.size, 3, none⟩ (.int .i64 ms)).setCell ⟨w.heap.size + 1, 0, none⟩ (.int .i64 cap)).setCell ⟨w.heap.size + 1, 1, none⟩ (.slice A6 N.length c6)).setCell ⟨w.heap.size + 1, 2, none⟩ (.int .i64 h)).setCell ⟨w.heap.size + 1, 3, none⟩ (.int .i64 ms)) := ⟨_, rfl⟩
      have hT9 : Turned (fun k => k = w.heap.size ∨ k = w.heap.size + 1) w6 w9 := by
        rw [hw9]
        exact (((((((((Turned.refl (fun k => k = w.heap.size ∨ k = w.heap.size + 1) w6).setCell (p := ⟨w.heap.size, 0, none⟩) (fun _ => .inl rfl) _).setCell (p := ⟨w.heap.size, 1, none⟩) (fun _ => .inl rfl) _).setCell (p := ⟨w.heap.size, 2, none⟩) (fun _ => .inl rfl) _).setCell (p := ⟨w.heap.size, 3, none⟩) (fun _ => .inl rfl) _).setCell (p := ⟨w.heap.size + 1, 0, none⟩) (fun _ => .inr rfl) _).setCell (p := ⟨w.heap.size + 1, 1, none⟩) (fun _ => .inr rfl) _).setCell (p := ⟨w.heap.size + 1, 2, none⟩) (fun _ => .inr rfl) _).setCell (p := ⟨w.heap.size + 1, 3, none⟩) (fun _ => .inr rfl) _)
      have hO9 := (HO6.out.kept hT9 (fun g hg hs => by have := (HO6.out.own_ge hg).1; simp at this; simp at hl6; omega)).rebase (base' := w.heap.size) hz6
      have hg9 : Grew w w9 := hg6.turn hT9 (fun k hk => by omega)
      refine bodyPost_ret (by first | (simp [*, results, Try.results30, go_sem]; rfl) | simp [*, results, Try.results30, go_sem]) rfl ?_
      rw [← hw9, HN.out]
      exact ⟨A6, c6, rfl, hO9, hc6, hc69, hg9⟩
    · have HPM := Lib.hid (show putS cap M (a, b) (s, u) = M ++ [((a, b), (s, u))] from by
        unfold putS; rw [HMM.out, if_neg (by omega)])
      go_upto_region 4 with (fail)
      go_wp2_with (first
        | (refine wpList_pushAll (by rfl) (.tmp 21) (.tmp 23) 52 rfl w3.heap.size 70 4 40 _ Try.underlying52 info_page rfl (by decide) (.slice (some ⟨w3.heap.size, 0, none⟩) 0 0) [] (M.map pgC) (by rfl) (OwnL.empty w3 _ _ _ (Nat.le_refl _) rfl) _ M.length _ (by rfl) (by rw [pgC_len]) (pgC_row _) ((HP3.out.hold (Nat.le_refl _) ((Grew.refl w3).alloc (.cells #[] 70))).mono (by simp)) (pgC_one _) (by simp; omega) (by simp; omega) (by simp) ?_; intro v1 w4 hown4 hgr4 hat4; have g4 : Grew w3 w4 := Grew.own ((Grew.refl w3).alloc (.cells #[] 70)) hgr4 (own_one _ _ _) (Nat.le_refl _); clear hgr4 hat4)
        | (refine wpList_push2 rfl (.tmp 24) (.tmp 31) 52 rfl w3.heap.size 70 4 40 _ Try.underlying52 info_page rfl (by decide) _ v1 ([] ++ M.map pgC) (pgC ((a, b), (s, u))) rfl rfl (hown4.alloc _) w4.heap.size (by rfl) (Blk.new _ _ _ rfl) rfl (by rw [List.nil_append, pgC_len]; omega) (by rw [List.nil_append, pgC_len]; omega) (Nat.le_trans g4.size (by simp)) M.length (by rw [List.nil_append, pgC_len]) ?_; intro g5 c5 w5 hown5 hgr5 hat5 hlt5; have g5' : Grew w3 w5 := Grew.own (g4.alloc (.cells #[.int .i64 a, .int .i64 b, .string s, .int .i64 u] 70)) hgr5 hown4.row_ge (Nat.le_refl _); have z0 := (hbx3.grew g5').cell 0; have z1 := (hbx3.grew g5').cell 1; have z2 := (hbx3.grew g5').cell 2; have z3 := (hbx3.grew g5').cell 3; have zf0 := (hbx3.grew g5').frozen 0; have zf1 := (hbx3.grew g5').frozen 1; have zf2 := (hbx3.grew g5').frozen 2; have zf3 := (hbx3.grew g5').frozen 3; have r0 := (hrx3.grew g5').cell 0; have r1 := (hrx3.grew g5').cell 1; have r2 := (hrx3.grew g5').cell 2; have r3 := (hrx3.grew g5').cell 3; have q0 := (hrx3.grew g5').frozen 0; have q1 := (hrx3.grew g5').frozen 1; have q2 := (hrx3.grew g5').frozen 2; have q3 := (hrx3.grew g5').frozen 3; have HO5 := Lib.hid hown5; have hz5 := g5'.size; clear hgr5 hat5 hown5 hown4 g4))
      obtain ⟨w9, hw9⟩ : ∃ w9, w9 = (((((w5.setCell ⟨w.heap.size, 1, none⟩ (.slice (some ⟨g5, 0, none⟩) (M.length + 1) c5)).setCell ⟨w.heap.size + 1, 0, none⟩ (.int .i64 cap)).setCell ⟨w.heap.size + 1, 1, none⟩ (.slice (some ⟨g5, 0, none⟩) (M.length + 1) c5)).setCell ⟨w.heap.size + 1, 2, none⟩ (.int .i64 h)).setCell ⟨w.heap.size + 1, 3, none⟩ (.int .i64 ms)) := ⟨_, rfl⟩
      have hT9 : Turned (fun k => k = w.heap.size ∨ k = w.heap.size + 1) w5 w9 := by
        rw [hw9]
        exact (((((Turned.refl (fun k => k = w.heap.size ∨ k = w.heap.size + 1) w5).setCell (p := ⟨w.heap.size, 1, none⟩) (fun _ => .inl rfl) _).setCell (p := ⟨w.heap.size + 1, 0, none⟩) (fun _ => .inr rfl) _).setCell (p := ⟨w.heap.size + 1, 1, none⟩) (fun _ => .inr rfl) _).setCell (p := ⟨w.heap.size + 1, 2, none⟩) (fun _ => .inr rfl) _).setCell (p := ⟨w.heap.size + 1, 3, none⟩) (fun _ => .inr rfl) _
      have hO9 := (HO5.out.kept hT9 (fun g hg hs => by have := (HO5.out.own_ge hg).1; omega)).rebase (base' := w.heap.size) hz3
      have hg9 : Grew w w9 := (hg3.trans g5').turn hT9 (fun k hk => by omega)
      have hME : (M ++ [((a, b), (s, u))]).length = M.length + 1 := by simp
      refine bodyPost_ret (by first | (simp [*, results, Try.results30, go_sem]; rfl) | simp [*, results, Try.results30, go_sem]) rfl ?_
      rw [← hw9, HPM.out]
      refine ⟨some ⟨g5, 0, none⟩, c5, by rw [hME], ?_, by rw [hME]; exact hO9.len.2.1, hO9.len.2.2, hg9⟩
      rw [hME, List.map_append]
      rw [List.nil_append] at hO9
      exact hO9
end
end Go.Proofs.Ytfmhiocigoejjaa
