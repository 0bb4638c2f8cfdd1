/- The reference's Invalidate and Drop. -/
import Derived.Test.YtfmhiocigoejjaaBufW
import Derived.Test.YtfmhiocigoejjaaBufO
namespace Go.Proofs.Ytfmhiocigoejjaa
set_option linter.unusedVariables false
set_option linter.unusedSimpArgs false
set_option linter.unusedSectionVars false
open Go.RowKit
/-- A slice that lies in a new block. -/
def NewA (n n' : Nat) (A : Option Addr) : Prop := ∀ b off sp, A = some ⟨b, off, sp⟩ → n ≤ b ∧ b < n'
theorem OwnL.newA {w : World} {base e sz n c : Nat} {A : Option Addr} {rows : List (List Value)} (h : OwnL w base e sz (.slice A n c) rows) : NewA base w.heap.size A := by
  rintro b off sp rfl
  exact h.own_ge (g := b) rfl
theorem NewA.le {n m n' m' : Nat} {A : Option Addr} (h : NewA n n' A) (hm : m ≤ n) (hn : n' ≤ m') : NewA m m' A := fun b off sp e => ⟨Nat.le_trans hm (h b off sp e).1, Nat.lt_of_lt_of_le (h b off sp e).2 hn⟩
theorem PgsAt.to {w w' : World} {B : Nat} {A : Option Addr} {L : List Pg} (h : PgsAt w B A L) (hB : B ≤ w.heap.size) (hg : Grew w w') : PgsAt w' w'.heap.size A L := (h.hold hB hg).mono (Nat.le_trans hB hg.size)
section
variable (cap : Int) (A : Option Addr) (c : Nat) (h ms : Int) (L : List Pg) (a b : Int)
set_option maxRecDepth 100000 in
set_option maxHeartbeats 4000000 in
theorem rinv_any (ver : Int) (w : World) (B : Nat) (hB : B ≤ w.heap.size) (hp : PgsAt w B A L) (hl : L.length ≤ 10000) (hc : L.length ≤ c) (hc9 : c ≤ 9223372036854775807) (hnd : (keys L).Nodup) :
    Calls Try.prog 31 #[.agg #[.int .i64 cap, .slice A L.length c, .int .i64 h, .int .i64 ms], .int .i64 a, .int .i64 b, .int .i64 ver] w fun e w' => ∃ A' c', e = .returned (.tuple #[.agg #[.int .i64 cap, .slice A' (invS L (a, b) ver).length c', .int .i64 h, .int .i64 ms], .bool (decide ((0 : Int) < (L.length : Int) - ((invS L (a, b) ver).length : Int)))]) ∧ PgsAt w' w'.heap.size A' (invS L (a, b) ver) ∧ (invS L (a, b) ver).length ≤ c' ∧ c' ≤ 9223372036854775807 ∧ (A' = A ∨ NewA w.heap.size w'.heap.size A') ∧ Grew w w' := by
  have ga := ((Grew.refl w).alloc (.cells #[.int .i64 cap, .slice A L.length c, .int .i64 h, .int .i64 ms] 54)).alloc (.cells #[.int .i64 0, .slice none 0 0, .int .i64 0, .int .i64 0] 54)
  have HF := Lib.hid (find_any cap A c h ms L a b _ B (Nat.le_trans hB ga.size) (hp.hold hB ga) (by omega))
  have hbx := (Blk.new w 54 #[.int .i64 cap, .slice A L.length c, .int .i64 h, .int .i64 ms] rfl).alloc (.cells #[.int .i64 0, .slice none 0 0, .int .i64 0, .int .i64 0] 54)
  have hrx := (Blk.new (w.alloc (.cells #[.int .i64 cap, .slice A L.length c, .int .i64 h, .int .i64 ms] 54)) 54 #[.int .i64 0, .slice none 0 0, .int .i64 0, .int .i64 0] (n := w.heap.size + 1) (by simp))
  have HPG := Lib.hid (hp.hold hB ga)
  have HND := Lib.hid hnd
  have HP0 := Lib.hid hp
  clear hp hnd
  go_enter Try.func31, Try.ntmps31
  go_wp2_with fail
  refine HF.out.mono ?_
  rintro e w1 ⟨hf, g1⟩
  have hbx1 := hbx.grew g1
  have hrx1 := hrx.grew g1
  have hg1 := ga.trans g1
  have hz1 : w.heap.size + 2 ≤ w1.heap.size := by have := g1.size; simpa using this
  have hB1 : B ≤ w1.heap.size := by omega
  have HP1 := Lib.hid (HPG.out.hold (Nat.le_trans hB ga.size) g1)
  have x0 := hbx1.cell 0
  have x1 := hbx1.cell 1
  have x2 := hbx1.cell 2
  have x3 := hbx1.cell 3
  have r0 := hrx1.cell 0
  have r1 := hrx1.cell 1
  have r2 := hrx1.cell 2
  have r3 := hrx1.cell 3
  have q0 := hrx1.frozen 0
  have q1 := hrx1.frozen 1
  have q2 := hrx1.frozen 2
  have q3 := hrx1.frozen 3
  clear HF HPG hbx hrx g1
  rcases hf with hf | ⟨rfl, he⟩
  · obtain ⟨i, hi, rfl, he⟩ := hf
    obtain ⟨⟨ct, cv⟩, hk⟩ := look_mem L (a, b) (by rw [← he]; exact List.mem_map_of_mem (List.getElem_mem hi))
    obtain ⟨bb, off, rfl, hb, e0, e1, e2, e3⟩ := HP1.out.at_ hi
    have hli := look_at L (a, b) (ct, cv) hk HND.out i hi he
    rw [hli] at e0 e1 e2 e3
    simp only at e0 e1 e2 e3
    have HER := Lib.hid (erase_rmv L (a, b) HND.out i hi he)
    have hrl := rmv_lt L (a, b) (look_some_mem L (a, b) _ hk)
    have hin : (0 : Int) ≤ (i : Int) := by omega
    have hin' : ¬ (i : Int) < 0 := by omega
    have hil : (i : Int) < (L.length : Int) := by omega
    clear hli he
    by_cases hv : cv < ver
    · have HIS := Lib.hid (invS_gone L (a, b) (ct, cv) ver hk hv)
      have HRM := Lib.hid (remove_any cap _ c h ms L w1 B hB1 HP1.out (by omega) hc hc9 i hi)
      clear hk
      go_wp2_with fail
      refine HRM.out.mono ?_
      rintro e w2 ⟨A2, c2, rfl, hown2, hc2, hc29, g2⟩
      rw [HER.out] at hown2 hc2 ⊢
      obtain ⟨M, hM⟩ : ∃ M, rmv L (a, b) = M := ⟨_, rfl⟩
      have HMM := Lib.hid (HIS.out.trans hM)
      rw [hM] at hown2 hc2 hrl ⊢
      have hrx2 := hrx1.grew g2
      have hg2 := hg1.trans g2
      have r0 := hrx2.cell 0
      have r1 := hrx2.cell 1
      have r2 := hrx2.cell 2
      have r3 := hrx2.cell 3
      have q0 := hrx2.frozen 0
      have q1 := hrx2.frozen 1
      have q2 := hrx2.frozen 2
      have q3 := hrx2.frozen 3
      have hl2 := hrx2.lt
      have HO2 := Lib.hid hown2
      clear hM x0 x1 x2 x3 e0 e1 e2 e3 HRM HER HP1 hown2
      go_wp2_with fail
      refine bodyPost_ret (by first | (simp [*, results, Try.results31, go_sem]; rfl) | simp [*, results, Try.results31, go_sem]) rfl ?_
      rw [HMM.out]
      refine ⟨A2, c2, ?_, ?_, hc2, hc29, .inr (HO2.out.newA.le (by omega) (by simp)), by (repeat' first | (with_reducible exact Grew.refl _) | (with_reducible assumption) | (with_reducible refine Grew.alloc ?_ _) | (with_reducible refine Grew.drew ?_) | (with_reducible refine Grew.drewN ?_ _) | (with_reducible refine Grew.setRow ?_ (by first | (simp; done) | (simp; omega) | omega) _) | (with_reducible refine Grew.setCell ?_ (by first | (simp; done) | (simp; omega) | omega) _) | ((with_reducible apply Grew.trans); rotate_left; (with_reducible assumption)) | ((with_reducible apply Grew.turn); rotate_left; (with_reducible assumption); (focus (intro i hi; first | omega | (simp at hi; omega)))) | fail)⟩
      · rw [show decide ((0 : Int) < (L.length : Int) - (M.length : Int)) = true from by rw [decide_eq_true_eq]; omega]
      · exact (HO2.out.kept (S := fun k => k = w.heap.size + 1) ((((Turned.refl (fun k => k = w.heap.size + 1) w2).setCell (p := ⟨w.heap.size + 1, 0, none⟩) (fun _ => rfl) _).setCell (p := ⟨w.heap.size + 1, 1, none⟩) (fun _ => rfl) _).setCell (p := ⟨w.heap.size + 1, 2, none⟩) (fun _ => rfl) _ |>.setCell (p := ⟨w.heap.size + 1, 3, none⟩) (fun _ => rfl) _) (fun g hg hs => by have := (HO2.out.own_ge hg).1; omega)).listA
    · have HIS := Lib.hid (invS_kept L (a, b) (ct, cv) ver hk hv)
      have hv' : ver ≤ cv := by omega
      clear hk hv
      go_wp2_with fail
      refine bodyPost_ret (by first | (simp [*, results, Try.results31, go_sem]; rfl) | simp [*, results, Try.results31, go_sem]) rfl ?_
      rw [HIS.out]
      refine ⟨some ⟨bb, off, none⟩, c, ?_, ?_, hc, hc9, .inl rfl, by (repeat' first | (with_reducible exact Grew.refl _) | (with_reducible assumption) | (with_reducible refine Grew.alloc ?_ _) | (with_reducible refine Grew.drew ?_) | (with_reducible refine Grew.drewN ?_ _) | (with_reducible refine Grew.setRow ?_ (by first | (simp; done) | (simp; omega) | omega) _) | (with_reducible refine Grew.setCell ?_ (by first | (simp; done) | (simp; omega) | omega) _) | ((with_reducible apply Grew.trans); rotate_left; (with_reducible assumption)) | ((with_reducible apply Grew.turn); rotate_left; (with_reducible assumption); (focus (intro i hi; first | omega | (simp at hi; omega)))) | fail)⟩
      · rw [show decide ((0 : Int) < (L.length : Int) - (L.length : Int)) = false from by rw [decide_eq_false_iff_not]; omega]
      · exact HP0.out.to hB (by (repeat' first | (with_reducible exact Grew.refl _) | (with_reducible assumption) | (with_reducible refine Grew.alloc ?_ _) | (with_reducible refine Grew.drew ?_) | (with_reducible refine Grew.drewN ?_ _) | (with_reducible refine Grew.setRow ?_ (by first | (simp; done) | (simp; omega) | omega) _) | (with_reducible refine Grew.setCell ?_ (by first | (simp; done) | (simp; omega) | omega) _) | ((with_reducible apply Grew.trans); rotate_left; (with_reducible assumption)) | ((with_reducible apply Grew.turn); rotate_left; (with_reducible assumption); (focus (intro i hi; first | omega | (simp at hi; omega)))) | fail))
  · have HIS := Lib.hid (invS_none L (a, b) ver (look_none L (a, b) he))
    clear he
    go_wp2_with fail
    refine bodyPost_ret (by first | (simp [*, results, Try.results31, go_sem]; rfl) | simp [*, results, Try.results31, go_sem]) rfl ?_
    rw [HIS.out]
    refine ⟨A, c, ?_, ?_, hc, hc9, .inl rfl, by (repeat' first | (with_reducible exact Grew.refl _) | (with_reducible assumption) | (with_reducible refine Grew.alloc ?_ _) | (with_reducible refine Grew.drew ?_) | (with_reducible refine Grew.drewN ?_ _) | (with_reducible refine Grew.setRow ?_ (by first | (simp; done) | (simp; omega) | omega) _) | (with_reducible refine Grew.setCell ?_ (by first | (simp; done) | (simp; omega) | omega) _) | ((with_reducible apply Grew.trans); rotate_left; (with_reducible assumption)) | ((with_reducible apply Grew.turn); rotate_left; (with_reducible assumption); (focus (intro i hi; first | omega | (simp at hi; omega)))) | fail)⟩
    · rw [show decide ((0 : Int) < (L.length : Int) - (L.length : Int)) = false from by rw [decide_eq_false_iff_not]; omega]
    · exact HP0.out.to hB (by (repeat' first | (with_reducible exact Grew.refl _) | (with_reducible assumption) | (with_reducible refine Grew.alloc ?_ _) | (with_reducible refine Grew.drew ?_) | (with_reducible refine Grew.drewN ?_ _) | (with_reducible refine Grew.setRow ?_ (by first | (simp; done) | (simp; omega) | omega) _) | (with_reducible refine Grew.setCell ?_ (by first | (simp; done) | (simp; omega) | omega) _) | ((with_reducible apply Grew.trans); rotate_left; (with_reducible assumption)) | ((with_reducible apply Grew.turn); rotate_left; (with_reducible assumption); (focus (intro i hi; first | omega | (simp at hi; omega)))) | fail))
theorem dropS_take (L : List Pg) (id : Int) (k : Nat) (hk : k < L.length) : dropS (L.take (k + 1)) id = if L[k].1.1 = id then dropS (L.take k) id else dropS (L.take k) id ++ [L[k]] := by
  rw [List.take_succ_eq_append_getElem hk]
  unfold dropS
  rw [List.filter_append]
  by_cases h : L[k].1.1 = id <;> simp [h]
set_option maxRecDepth 100000 in
set_option maxHeartbeats 4000000 in
theorem rdrop_any (id : Int) (w : World) (B : Nat) (hB : B ≤ w.heap.size) (hp : PgsAt w B A L) (hl : L.length ≤ 10000) (hc : L.length ≤ c) (hc9 : c ≤ 9223372036854775807) :
    Calls Try.prog 32 #[.agg #[.int .i64 cap, .slice A L.length c, .int .i64 h, .int .i64 ms], .int .i64 id] w fun e w' => ∃ A' c', e = .returned (.tuple #[.agg #[.int .i64 cap, .slice A' (dropS L id).length c', .int .i64 h, .int .i64 ms], .int .i64 ((L.length : Int) - ((dropS L id).length : Int))]) ∧ PgsAt w' w'.heap.size A' (dropS L id) ∧ (dropS L id).length ≤ c' ∧ c' ≤ 9223372036854775807 ∧ NewA w.heap.size w'.heap.size A' ∧ Grew w w' := by
  have HP0 := Lib.hid hp
  clear hp
  go_enter Try.func32, Try.ntmps32
  go_wp2_with fail
  go_loopg [6, 7] L.length (fun gk o i wr => ∃ k : Nat, k ≤ L.length ∧ gk = L.length - k ∧ i = .int .i64 k ∧ OwnL wr (w.heap.size + 2) 70 4 o ((dropS (L.take k) id).map pgC) ∧ Blk wr w.heap.size 54 #[.int .i64 cap, .slice A L.length c, .int .i64 h, .int .i64 ms] ∧ Blk wr (w.heap.size + 1) 54 #[.int .i64 0, .slice none 0 0, .int .i64 0, .int .i64 0] ∧ Grew w wr)
  case atStart =>
    refine ⟨0, by omega, by omega, rfl, OwnL.empty _ _ _ _ (by simp) (by simp), ?_, ?_, by (repeat' first | (with_reducible exact Grew.refl _) | (with_reducible assumption) | (with_reducible refine Grew.alloc ?_ _) | (with_reducible refine Grew.drew ?_) | (with_reducible refine Grew.drewN ?_ _) | (with_reducible refine Grew.setRow ?_ (by first | (simp; done) | (simp; omega) | omega) _) | (with_reducible refine Grew.setCell ?_ (by first | (simp; done) | (simp; omega) | omega) _) | ((with_reducible apply Grew.trans); rotate_left; (with_reducible assumption)) | ((with_reducible apply Grew.turn); rotate_left; (with_reducible assumption); (focus (intro i hi; first | omega | (simp at hi; omega)))) | fail)⟩
    · exact ((Blk.new w _ _ rfl).alloc _).alloc _
    · exact (Blk.new _ _ _ (by simp)).alloc _
  case round =>
    obtain ⟨k, hk, hgk, rfl, hown, hbx, hrx, hg⟩ := hrel
    have HGK := Lib.hid hgk
    have hz := hg.size
    have x1 := hbx.cell 1
    have hbl := hbx.lt
    have hrl := hrx.lt
    clear hgk
    by_cases hlt : k < L.length
    · have HDT := Lib.hid (dropS_take L id k hlt)
      have hdl : (dropS (L.take k) id).length ≤ k := by
        have := List.length_filter_le (fun y : Pg => !decide (y.1.1 = id)) (L.take k)
        rw [List.length_take] at this
        show (List.filter _ _).length ≤ k
        omega
      obtain ⟨bb, off, rfl, hb, e0, e1, e2, e3⟩ := (HP0.out.hold hB hg).at_ hlt
      obtain ⟨t, ht⟩ : ∃ t, L[k] = t := ⟨_, rfl⟩
      rw [ht] at e0 e1 e2 e3
      have HDT2 := Lib.hid (show dropS (L.take (k + 1)) id = if t.1.1 = id then dropS (L.take k) id else dropS (L.take k) id ++ [t] from by rw [HDT.out, ht])
      clear HDT ht
      obtain ⟨⟨ta, tb⟩, td, tv⟩ := t
      simp only at e0 e1 e2 e3
      by_cases hid : ta = id
      · have HD := Lib.hid (HDT2.out.trans (by rw [if_pos hid]))
        have HO := Lib.hid hown
        have HX := Lib.hid hbx
        have HR := Lib.hid hrx
        subst hid
        clear hown HDT2 hbx hrx
        go_wp2_with fail
        go_roundg (L.length - (k + 1))
        case measure => rw [HGK.out]; omega
        case rel => exact ⟨k + 1, by omega, by omega, by go_num, by rw [HD.out]; exact HO.out, HX.out, HR.out, hg⟩
      · have HD := Lib.hid (HDT2.out.trans (by rw [if_neg hid]))
        have hne : (ta == id) = false := beq_eq_false_iff_ne.2 hid
        have hne2 : (ta != id) = true := bne_iff_ne.2 hid
        clear HDT2 hid
        go_wp2_with (at_builtin; (refine wpList_push2 rfl _ _ 52 rfl (w.heap.size + 2) 70 4 40 _ Try.underlying52 info_page rfl (by decide) _ _ ((dropS (L.take k) id).map pgC) (pgC ((ta, tb), (td, tv))) rfl rfl (hown.alloc _) wr.heap.size (by rfl) (Blk.new _ _ _ rfl) rfl (by rw [pgC_len]; omega) (by rw [pgC_len]; omega) (by simp; omega) _ (pgC_len _) ?_); intro g5 c5 w5 hown5 hgr5 hat5 hlt5)
        have hg5 := Grew.own (hg.alloc (.cells #[.int .i64 ta, .int .i64 tb, .string td, .int .i64 tv] 70)) hgr5 hown.row_ge (by omega)
        have hbx5 := (hbx.alloc (.cells #[.int .i64 ta, .int .i64 tb, .string td, .int .i64 tv] 70)).own hgr5 (fun e => by have := hown.row_ge _ e; omega)
        have hrx5 := (hrx.alloc (.cells #[.int .i64 ta, .int .i64 tb, .string td, .int .i64 tv] 70)).own hgr5 (fun e => by have := hown.row_ge _ e; omega)
        go_roundg (L.length - (k + 1))
        case measure => rw [HGK.out]; omega
        case rel => exact ⟨k + 1, by omega, by omega, by go_num, by rw [HD.out, List.map_append]; exact hown5, hbx5, hrx5, hg5⟩
    · obtain rfl : k = L.length := by omega
      rw [List.take_length] at hown
      obtain ⟨A5, c5, hv5, hc5, hc59, _⟩ := hown.listAt
      rw [pgC_len] at hv5 hc5
      subst hv5
      have hdl : (dropS L id).length ≤ L.length := List.length_filter_le _ _
      obtain ⟨D, hD⟩ : ∃ D, dropS L id = D := ⟨_, rfl⟩
      have HD := Lib.hid hD
      rw [hD] at hown hc5 hdl ⊢
      have HO := Lib.hid hown
      have x0 := hbx.cell 0
      have x2 := hbx.cell 2
      have x3 := hbx.cell 3
      have f1 := hbx.frozen 1
      have r0 := hrx.cell 0
      have r1 := hrx.cell 1
      have r2 := hrx.cell 2
      have r3 := hrx.cell 3
      have q0 := hrx.frozen 0
      have q1 := hrx.frozen 1
      have q2 := hrx.frozen 2
      have q3 := hrx.frozen 3
      clear hown hD hbx hrx
      go_wp2_with fail
      refine bodyPost_ret (by first | (simp [*, results, Try.results32, go_sem]; rfl) | simp [*, results, Try.results32, go_sem]) rfl ?_
      refine ⟨A5, c5, by rw [HD.out], ?_, by rw [HD.out]; exact hc5, hc59, HO.out.newA.le (by omega) (by simp), by (repeat' first | (with_reducible exact Grew.refl _) | (with_reducible assumption) | (with_reducible refine Grew.alloc ?_ _) | (with_reducible refine Grew.drew ?_) | (with_reducible refine Grew.drewN ?_ _) | (with_reducible refine Grew.setRow ?_ (by first | (simp; done) | (simp; omega) | omega) _) | (with_reducible refine Grew.setCell ?_ (by first | (simp; done) | (simp; omega) | omega) _) | ((with_reducible apply Grew.trans); rotate_left; (with_reducible assumption)) | ((with_reducible apply Grew.turn); rotate_left; (with_reducible assumption); (focus (intro i hi; first | omega | (simp at hi; omega)))) | fail)⟩
      rw [HD.out]
      exact (HO.out.kept (S := fun k => k = w.heap.size ∨ k = w.heap.size + 1) ((((((Turned.refl (fun k => k = w.heap.size ∨ k = w.heap.size + 1) _).setCell (p := ⟨w.heap.size, 1, none⟩) (fun _ => .inl rfl) _).setCell (p := ⟨w.heap.size + 1, 0, none⟩) (fun _ => .inr rfl) _).setCell (p := ⟨w.heap.size + 1, 1, none⟩) (fun _ => .inr rfl) _).setCell (p := ⟨w.heap.size + 1, 2, none⟩) (fun _ => .inr rfl) _).setCell (p := ⟨w.heap.size + 1, 3, none⟩) (fun _ => .inr rfl) _) (fun g hg hs => by have := (HO.out.own_ge hg).1; omega)).listA
end
end Go.Proofs.Ytfmhiocigoejjaa
