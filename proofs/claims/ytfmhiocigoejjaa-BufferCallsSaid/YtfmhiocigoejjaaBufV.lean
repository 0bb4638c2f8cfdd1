/- The reference's Get. -/
import Derived.Test.YtfmhiocigoejjaaBufU
import Derived.Test.YtfmhiocigoejjaaOrd3
import Derived.Test.YtfmhiocigoejjaaOwn2
namespace Go.Proofs.Ytfmhiocigoejjaa
set_option linter.unusedVariables false
set_option linter.unusedSimpArgs false
set_option linter.unusedSectionVars false
open Go.RowKit
attribute [local go_sem ↓] Go.wp_at_zero Go.wp_at_succ
theorem erase_rmv (L : List Pg) (p : Place) (hnd : (keys L).Nodup) : ∀ (i : Nat) (hi : i < L.length), L[i].1 = p → L.eraseIdx i = rmv L p := by
  induction L with
  | nil => intro i hi; simp at hi
  | cons x L ih =>
    obtain ⟨h1, h2⟩ := List.nodup_cons.1 hnd
    intro i hi he
    cases i with
    | zero =>
      have he' : x.1 = p := he
      subst he'
      show L = _
      exact (filter_first x L hnd).symm
    | succ i =>
      have he' : (L[i]'(by simpa using hi)).1 = p := he
      have hx : x.1 ≠ p := fun e => h1 (by show x.1 ∈ keys L; rw [e, ← he']; exact List.mem_map_of_mem (List.getElem_mem _))
      have := ih h2 i (by simpa using hi) he'
      show x :: L.eraseIdx i = _
      rw [this]
      unfold rmv
      rw [List.filter_cons_of_pos (by simp [hx])]
theorem look_at (L : List Pg) (p : Place) (c : ByteArray × Int) (hl : look L p = some c) (hnd : (keys L).Nodup) (i : Nat) (hi : i < L.length) (he : L[i].1 = p) : L[i] = (p, c) := by
  unfold look at hl
  cases hf : L.find? (fun x => decide (x.1 = p)) with
  | none => rw [hf] at hl; cases hl
  | some y =>
    rw [hf] at hl
    have h1 := List.find?_some hf
    have h2 := List.mem_of_find?_eq_some hf
    rw [decide_eq_true_eq] at h1
    obtain ⟨j, hj, hjy⟩ := List.getElem_of_mem h2
    have hk : (keys L)[i]? = some p := by unfold keys; rw [List.getElem?_map, List.getElem?_eq_getElem hi]; simp [he]
    have hk2 : (keys L)[j]? = some p := by unfold keys; rw [List.getElem?_map, List.getElem?_eq_getElem hj]; simp [hjy, h1]
    have hij := nodup_at hnd hk hk2
    subst hij
    have hc : y.2 = c := by injection hl
    rw [hjy]
    rw [← hc, ← h1]
section
variable (cap : Int) (A : Option Addr) (c : Nat) (h ms : Int) (L : List Pg) (a b : Int)
set_option maxRecDepth 100000 in
set_option maxHeartbeats 2000000 in
theorem rget_none (w : World) (B : Nat) (hB : B ≤ w.heap.size) (hp : PgsAt w B A L) (hl : L.length ≤ 100000) (hms : 0 ≤ ms ∧ ms ≤ 1000000) (hk : look L (a, b) = none) :
    Calls Try.prog 29 #[.agg #[.int .i64 cap, .slice A L.length c, .int .i64 h, .int .i64 ms], .int .i64 a, .int .i64 b] w fun e w' => e = .returned (.tuple #[.agg #[.int .i64 cap, .slice A L.length c, .int .i64 h, .int .i64 (ms + 1)], .string ⟨#[]⟩, .int .i64 0, .bool false]) ∧ Grew w w' := by
  obtain ⟨hms0, hms1⟩ := hms
  have HK := Lib.hid hk
  have ga := ((Grew.refl w).alloc (.cells #[.int .i64 cap, .slice A L.length c, .int .i64 h, .int .i64 ms] 54)).alloc (.cells #[.int .i64 0, .slice none 0 0, .int .i64 0, .int .i64 0] 54)
  have HF := Lib.hid (find_any cap A c h ms L a b _ B (Nat.le_trans hB ga.size) (hp.hold hB ga) hl)
  have hbx := (Blk.new w 54 #[.int .i64 cap, .slice A L.length c, .int .i64 h, .int .i64 ms] rfl).alloc (.cells #[.int .i64 0, .slice none 0 0, .int .i64 0, .int .i64 0] 54)
  have hrx := (Blk.new (w.alloc (.cells #[.int .i64 cap, .slice A L.length c, .int .i64 h, .int .i64 ms] 54)) 54 #[.int .i64 0, .slice none 0 0, .int .i64 0, .int .i64 0] (n := w.heap.size + 1) (by simp))
  clear hp hk
  go_enter Try.func29, Try.ntmps29
  go_wp2_with fail
  refine HF.out.mono ?_
  rintro e w1 ⟨hf, g1⟩
  rcases hf with ⟨i, hi, _, he⟩ | ⟨rfl, _⟩
  · exfalso
    obtain ⟨_, hc⟩ := look_mem L (a, b) (by rw [← he]; exact List.mem_map_of_mem (List.getElem_mem hi))
    rw [HK.out] at hc
    cases hc
  have hbx1 := hbx.grew g1
  have hrx1 := hrx.grew g1
  have hg1 := ga.trans g1
  have hl1 := hbx1.lt
  have hl2 := hrx1.lt
  have x0 := hbx1.cell 0
  have x1 := hbx1.cell 1
  have x2 := hbx1.cell 2
  have x3 := hbx1.cell 3
  have f3 := hbx1.frozen 3
  have r0 := hrx1.cell 0
  have r1 := hrx1.cell 1
  have r2 := hrx1.cell 2
  have r3 := hrx1.cell 3
  have q0 := hrx1.frozen 0
  have q1 := hrx1.frozen 1
  have q2 := hrx1.frozen 2
  have q3 := hrx1.frozen 3
  have hms2 : 0 ≤ ms + 1 ∧ ms + 1 ≤ 1000001 := by omega
  have hz := hg1.size
  clear hbx hrx hbx1 hrx1 HF
  go_wp2_with fail
  refine bodyPost_ret (by first | (simp [*, results, Try.results29, go_sem]; rfl) | simp [*, results, Try.results29, go_sem]) rfl ?_
  exact ⟨rfl, by (repeat' first | (with_reducible exact Grew.refl _) | (with_reducible assumption) | (with_reducible refine Grew.alloc ?_ _) | (with_reducible refine Grew.drew ?_) | (with_reducible refine Grew.drewN ?_ _) | (with_reducible refine Grew.setRow ?_ (by first | (simp; done) | (simp; omega) | omega) _) | (with_reducible refine Grew.setCell ?_ (by first | (simp; done) | (simp; omega) | omega) _) | ((with_reducible apply Grew.trans); rotate_left; (with_reducible assumption)) | ((with_reducible apply Grew.turn); rotate_left; (with_reducible assumption); (focus (intro i hi; first | omega | (simp at hi; omega)))) | fail)⟩
set_option maxRecDepth 100000 in
set_option maxHeartbeats 2000000 in
theorem rget_some (s : ByteArray) (u : Int) (w : World) (B : Nat) (hB : B ≤ w.heap.size) (hp : PgsAt w B A L) (hl : L.length ≤ 100000) (hc : L.length ≤ c) (hc9 : c ≤ 9223372036854775807) (hh : 0 ≤ h ∧ h ≤ 1000000) (hnd : (keys L).Nodup) (hk : look L (a, b) = some (s, u)) :
    Calls Try.prog 29 #[.agg #[.int .i64 cap, .slice A L.length c, .int .i64 h, .int .i64 ms], .int .i64 a, .int .i64 b] w fun e w' => ∃ A' c', e = .returned (.tuple #[.agg #[.int .i64 cap, .slice A' (rmv L (a, b) ++ [((a, b), (s, u))]).length c', .int .i64 (h + 1), .int .i64 ms], .string s, .int .i64 u, .bool true]) ∧ OwnL w' w.heap.size 70 4 (.slice A' (rmv L (a, b) ++ [((a, b), (s, u))]).length c') ((rmv L (a, b) ++ [((a, b), (s, u))]).map pgC) ∧ (rmv L (a, b) ++ [((a, b), (s, u))]).length ≤ c' ∧ c' ≤ 9223372036854775807 ∧ Grew w w' := by
  obtain ⟨hh0, hh1⟩ := hh
  have ga := ((Grew.refl w).alloc (.cells #[.int .i64 cap, .slice A L.length c, .int .i64 h, .int .i64 ms] 54)).alloc (.cells #[.int .i64 0, .slice none 0 0, .int .i64 0, .int .i64 0] 54)
  have HF := Lib.hid (find_any cap A c h ms L a b _ B (Nat.le_trans hB ga.size) (hp.hold hB ga) hl)
  have hbx := (Blk.new w 54 #[.int .i64 cap, .slice A L.length c, .int .i64 h, .int .i64 ms] rfl).alloc (.cells #[.int .i64 0, .slice none 0 0, .int .i64 0, .int .i64 0] 54)
  have hrx := (Blk.new (w.alloc (.cells #[.int .i64 cap, .slice A L.length c, .int .i64 h, .int .i64 ms] 54)) 54 #[.int .i64 0, .slice none 0 0, .int .i64 0, .int .i64 0] (n := w.heap.size + 1) (by simp))
  have HPG := Lib.hid (hp.hold hB ga)
  have HK := Lib.hid hk
  have HND := Lib.hid hnd
  clear hp hk hnd
  go_enter Try.func29, Try.ntmps29
  go_wp2_with fail
  refine HF.out.mono ?_
  rintro e w1 ⟨hf, g1⟩
  rcases hf with hf | ⟨_, he⟩
  rotate_left
  · exact absurd (look_some_mem L (a, b) _ HK.out) he
  obtain ⟨i, hi, rfl, he⟩ := hf
  have HER := Lib.hid (erase_rmv L (a, b) HND.out i hi he)
  have hli := look_at L (a, b) (s, u) HK.out HND.out i hi he
  have hp1 := HPG.out.hold (Nat.le_trans hB ga.size) g1
  obtain ⟨bb, off, rfl, hb, e0, e1, e2, e3⟩ := hp1.at_ hi
  rw [hli] at e0 e1 e2 e3
  simp only at e0 e1 e2 e3
  have hbx1 := hbx.grew g1
  have hrx1 := hrx.grew g1
  have hg1 := ga.trans g1
  have HP1 := Lib.hid hp1
  have hB1 : B ≤ w1.heap.size := Nat.le_trans hB hg1.size
  have hl1 := hbx1.lt
  have hl2 := hrx1.lt
  have x0 := hbx1.cell 0
  have x1 := hbx1.cell 1
  have x2 := hbx1.cell 2
  have x3 := hbx1.cell 3
  have hin : (0 : Int) ≤ (i : Int) := by omega
  have hil : (i : Int) < (L.length : Int) := by omega
  clear hbx hrx HF he hli hp1 g1
  have gp := (Grew.refl w1).alloc (.cells #[.int .i64 a, .int .i64 b, .string s, .int .i64 u] 70)
  have HRM := Lib.hid (remove_any cap _ c h ms L _ B (Nat.le_trans hB1 gp.size) (HP1.out.hold hB1 gp) hl hc hc9 i hi)
  have hpg := Blk.new w1 70 #[.int .i64 a, .int .i64 b, .string s, .int .i64 u] rfl
  go_wp2_with fail
  refine HRM.out.mono ?_
  rintro e w2 ⟨A2, c2, rfl, hown2, hc2, hc29, g2⟩
  have hrl := rmv_lt L (a, b) (look_some_mem L (a, b) _ HK.out)
  rw [HER.out] at hown2 hc2 ⊢
  obtain ⟨M, hM⟩ : ∃ M, rmv L (a, b) = M := ⟨_, rfl⟩
  rw [hM] at hown2 hc2 hrl
  have HMM := Lib.hid hM
  rw [hM]
  have hbx2 := (hbx1.grew gp).grew g2
  have hrx2 := (hrx1.grew gp).grew g2
  have hpg2 := hpg.grew g2
  have hw1 := (hg1.trans gp).trans g2
  have hz2 : w1.heap.size + 1 ≤ w2.heap.size := by have := g2.size; simpa using this
  have hl3 := hbx2.lt
  have f0 := hbx2.frozen 0
  have f1 := hbx2.frozen 1
  have f2 := hbx2.frozen 2
  have f3 := hbx2.frozen 3
  have hT0 := Turned.refl (fun k => k = w.heap.size ∨ k = w.heap.size + 1) w2
  have z0 := hbx2.cell 0
  have z1 := hbx2.cell 1
  have z2 := hbx2.cell 2
  have z3 := hbx2.cell 3
  have HO2 := Lib.hid hown2
  clear hM hown2 x0 x1 x2 x3 e0 e1 e2 e3 HRM HER HP1 HPG
  go_wp2_with fail
  refine wp_region_R [11, 13] (fun w' : World => w'.cell? ⟨w.heap.size, 1, none⟩ = some (.slice A2 M.length c2) ∧ w'.cell? ⟨w.heap.size, 2, none⟩ = some (.int .i64 h) ∧ w'.cell? ⟨w1.heap.size, 0, none⟩ = some (.int .i64 a) ∧ w'.cell? ⟨w1.heap.size, 1, none⟩ = some (.int .i64 b) ∧ w'.cell? ⟨w1.heap.size, 2, none⟩ = some (.string s) ∧ w'.cell? ⟨w1.heap.size, 3, none⟩ = some (.int .i64 u)) (by kernel_rfl) ?_
  obtain ⟨wb, hwb⟩ : ∃ wb, wb = (((((w2.setCell ⟨w.heap.size, 0, none⟩ (.int .i64 cap)).setCell ⟨w.heap.size, 1, none⟩ (.slice A2 M.length c2)).setCell ⟨w.heap.size, 2, none⟩ (.int .i64 h)).setCell ⟨w.heap.size, 3, none⟩ (.int .i64 ms)).drew) := ⟨_, rfl⟩
  have hTb : Turned (fun k => k = w.heap.size ∨ k = w.heap.size + 1) w2 wb := by
    rw [hwb]
    exact ((((hT0.setCell (p := ⟨w.heap.size, 0, none⟩) (fun _ => .inl rfl) _).setCell (p := ⟨w.heap.size, 1, none⟩) (fun _ => .inl rfl) _).setCell (p := ⟨w.heap.size, 2, none⟩) (fun _ => .inl rfl) _).setCell (p := ⟨w.heap.size, 3, none⟩) (fun _ => .inl rfl) _).drew
  have hbxb : Blk wb w.heap.size 54 #[.int .i64 cap, .slice A2 M.length c2, .int .i64 h, .int .i64 ms] := by
    rw [hwb]
    exact Blk.drew ((((hbx2.set_ 0 _).set_ 1 _).set_ 2 _).set_ 3 _)
  have hpgb : Blk wb w1.heap.size 70 #[.int .i64 a, .int .i64 b, .string s, .int .i64 u] := hpg2.turned hTb (by omega)
  have hrxb : Blk wb (w.heap.size + 1) 54 #[.int .i64 0, .slice none 0 0, .int .i64 0, .int .i64 0] := by
    rw [hwb]
    exact Blk.drew ((((hrx2.far (by simp) _).far (by simp) _).far (by simp) _).far (by simp) _)
  have HOb := Lib.hid (HO2.out.kept hTb (fun g hg hs => by have := (HO2.out.own_ge hg).1; simp at this; omega))
  have hgb : Grew w wb := hw1.turn hTb (fun k hk => by omega)
  rw [← hwb]
  clear hwb f0 f1 f2 f3 z0 z1 z2 z3 hl3
  have hzb := hTb.size
  have hS := (show (fun w' : World => w'.cell? ⟨w.heap.size, 1, none⟩ = some (.slice A2 M.length c2) ∧ w'.cell? ⟨w.heap.size, 2, none⟩ = some (.int .i64 h) ∧ w'.cell? ⟨w1.heap.size, 0, none⟩ = some (.int .i64 a) ∧ w'.cell? ⟨w1.heap.size, 1, none⟩ = some (.int .i64 b) ∧ w'.cell? ⟨w1.heap.size, 2, none⟩ = some (.string s) ∧ w'.cell? ⟨w1.heap.size, 3, none⟩ = some (.int .i64 u)) wb from ⟨hbxb.cell 1, hbxb.cell 2, hpgb.cell 0, hpgb.cell 1, hpgb.cell 2, hpgb.cell 3⟩)
  have hhh : 0 ≤ h + 1 ∧ h + 1 ≤ 1000001 := by omega
  have hsum : IntKind.i64.wrap (h + 1) = h + 1 := IntWalk.i64_in _ (by omega)
  have hMl : M.length ≤ 100000 := by omega
  refine wpAnyR_takeQ (i := 1) (v := ?_) (some 32) rfl rfl (by kernel_rfl) (by kernel_rfl) (by kernel_rfl) (by kernel_rfl) (fun _ _ _ h => h) (Or.inl ⟨by rfl, ?_⟩) ?_
  rotate_left
  focus (intro wS hSw; (try dsimp only at hSw); go_simp; (try with_reducible rfl); (try (rw [if_pos (by omega)]; (try go_simp); (try with_reducible rfl))))
  try simp only [Act.put, List.setIfInBounds_toArray, List.set_cons_zero, List.set_cons_succ]
  refine wpAnyR_take (i := 2) (v := ?_) [3, 6, 10, 11, 12, 13] (some 33) rfl rfl (by kernel_rfl) (by kernel_rfl) (by kernel_rfl) (by kernel_rfl) (by kernel_rfl) (by kernel_rfl) (by kernel_rfl) (fun _ _ _ h => h) (Or.inl ⟨by rfl, ?_⟩) hS ?_
  rotate_left
  focus (intro wS hSw; (try dsimp only at hSw); go_simp; (try with_reducible rfl); (try (rw [if_pos (by omega)]; (try go_simp); (try with_reducible rfl))))
  try simp only [Act.put, List.setIfInBounds_toArray, List.set_cons_zero, List.set_cons_succ]
  refine wpAnyR_take (i := 4) (v := ?_) [5, 6, 10, 11, 12, 13] (some 35) rfl rfl (by kernel_rfl) (by kernel_rfl) (by kernel_rfl) (by kernel_rfl) (by kernel_rfl) (by kernel_rfl) (by kernel_rfl) (fun _ _ _ h => h) (Or.inl ⟨by rfl, ?_⟩) hS ?_
  rotate_left
  focus (intro wS hSw; (try dsimp only at hSw); go_simp; (try with_reducible rfl); (try (rw [if_pos (by omega)]; (try go_simp); (try with_reducible rfl))))
  try simp only [Act.put, List.setIfInBounds_toArray, List.set_cons_zero, List.set_cons_succ]
  refine wpAnyR_takeQ (i := 7) (v := ?_) (some 38) rfl rfl (by kernel_rfl) (by kernel_rfl) (by kernel_rfl) (by kernel_rfl) (fun _ _ _ h => h) (Or.inl ⟨by rfl, ?_⟩) ?_
  rotate_left
  focus (intro wS hSw; (try dsimp only at hSw); go_simp; (try with_reducible rfl); (try (rw [if_pos (by omega)]; (try go_simp); (try with_reducible rfl))))
  try simp only [Act.put, List.setIfInBounds_toArray, List.set_cons_zero, List.set_cons_succ]
  refine wpAnyR_take (i := 8) (v := ?_) [9, 10, 11, 12, 13] (some 39) rfl rfl (by kernel_rfl) (by kernel_rfl) (by kernel_rfl) (by kernel_rfl) (by kernel_rfl) (by kernel_rfl) (by kernel_rfl) (fun _ _ _ h => h) (Or.inl ⟨by rfl, ?_⟩) hS ?_
  rotate_left
  focus (intro wS hSw; (try dsimp only at hSw); go_simp; (try with_reducible rfl); (try (rw [if_pos (by omega)]; (try go_simp); (try with_reducible rfl))))
  try simp only [Act.put, List.setIfInBounds_toArray, List.set_cons_zero, List.set_cons_succ]
  refine wpAnyR_takeQ (i := 9) (v := ?_) (some 40) rfl rfl (by kernel_rfl) (by kernel_rfl) (by kernel_rfl) (by kernel_rfl) (fun _ _ _ h => h) (Or.inl ⟨by rfl, ?_⟩) ?_
  rotate_left
  focus (intro wS hSw; (try dsimp only at hSw); go_simp; (try with_reducible rfl); (try (rw [if_pos (by omega)]; (try go_simp); (try with_reducible rfl))))
  try simp only [Act.put, List.setIfInBounds_toArray, List.set_cons_zero, List.set_cons_succ]
  refine wpAnyR_n2 (i := 0) (j := 5) rfl rfl (by kernel_rfl) ?f1a ?f1b
  case' f1a =>
    intro K' hK
    rw [if_pos (by rfl)]
    simp only [List.getElem_toArray, List.getElem_cons_succ, List.getElem_cons_zero]
    go_wp2_with fail
    have gb := (Grew.refl wb).alloc (.cells #[] 70)
    refine hK.out _ _ (.inr (fun _ => ⟨(hbxb.grew gb).cell 1, (hbxb.grew gb).cell 2, (hpgb.grew gb).cell 0, (hpgb.grew gb).cell 1, (hpgb.grew gb).cell 2, (hpgb.grew gb).cell 3⟩)) ?_
    clear hK
    refine wpAnyR_n2 (i := 3) (j := 5) rfl rfl (by kernel_rfl) ?f2a ?f2b
    case' f2a =>
      intro K' hK
      rw [if_pos (by rfl)]
      simp only [List.getElem_toArray, List.getElem_cons_succ, List.getElem_cons_zero]
      refine wp_pushAll (.tmp 31) (.tmp 33) 52 rfl wb.heap.size 70 4 40 _ Try.underlying52 info_page rfl (by decide) (.slice (some ⟨wb.heap.size, 0, none⟩) 0 0) [] (M.map pgC) rfl (OwnL.empty wb _ _ _ (Nat.le_refl _) rfl) _ M.length _ rfl (by rw [pgC_len]) (pgC_row _) (HOb.out.grew gb).listA (pgC_one _) (by simp; omega) (by simp; omega) gb.size ?_
      intro vA wA hownA hgrA hatA
      have gA : Grew wb wA := Grew.own gb hgrA (own_one _ _ _) (Nat.le_refl _)
      refine hK.out _ _ (.inr (fun _ => ⟨(hbxb.grew gA).cell 1, (hbxb.grew gA).cell 2, (hpgb.grew gA).cell 0, (hpgb.grew gA).cell 1, (hpgb.grew gA).cell 2, (hpgb.grew gA).cell 3⟩)) ?_
      clear hK hgrA hatA hS
      have hS := (show (fun w' : World => w'.cell? ⟨w.heap.size, 1, none⟩ = some (.slice A2 M.length c2) ∧ w'.cell? ⟨w.heap.size, 2, none⟩ = some (.int .i64 h) ∧ w'.cell? ⟨w1.heap.size, 0, none⟩ = some (.int .i64 a) ∧ w'.cell? ⟨w1.heap.size, 1, none⟩ = some (.int .i64 b) ∧ w'.cell? ⟨w1.heap.size, 2, none⟩ = some (.string s) ∧ w'.cell? ⟨w1.heap.size, 3, none⟩ = some (.int .i64 u)) wA from ⟨(hbxb.grew gA).cell 1, (hbxb.grew gA).cell 2, (hpgb.grew gA).cell 0, (hpgb.grew gA).cell 1, (hpgb.grew gA).cell 2, (hpgb.grew gA).cell 3⟩)
      refine wpAnyR_n1 (i := 5) rfl (by kernel_rfl) ?_
      intro K' hK
      rw [if_pos (by rfl)]
      simp only [List.getElem_toArray, List.getElem_cons_succ, List.getElem_cons_zero]
      go_wp2_with fail
      have gX := gA.alloc (.cells #[.int .i64 a, .int .i64 b, .string s, .int .i64 u] 70)
      have hownX := hownA.alloc (.cells #[.int .i64 a, .int .i64 b, .string s, .int .i64 u] 70)
      have hbX := Blk.new wA 70 #[.int .i64 a, .int .i64 b, .string s, .int .i64 u] rfl
      refine hK.out _ _ (.inr (fun _ => ⟨(hbxb.grew gX).cell 1, (hbxb.grew gX).cell 2, (hpgb.grew gX).cell 0, (hpgb.grew gX).cell 1, (hpgb.grew gX).cell 2, (hpgb.grew gX).cell 3⟩)) ?_
      clear hK hownA hS
    case' f2b =>
      intro K' hK
      rw [if_pos (by rfl)]
      simp only [List.getElem_toArray, List.getElem_cons_succ, List.getElem_cons_zero]
      go_wp2_with fail
      have gc := gb.alloc (.cells #[.int .i64 a, .int .i64 b, .string s, .int .i64 u] 70)
      have hbc := Blk.new (wb.alloc (.cells #[] 70)) 70 #[.int .i64 a, .int .i64 b, .string s, .int .i64 u] (n := wb.heap.size + 1) (by simp)
      refine hK.out _ _ (.inr (fun _ => ⟨(hbxb.grew gc).cell 1, (hbxb.grew gc).cell 2, (hpgb.grew gc).cell 0, (hpgb.grew gc).cell 1, (hpgb.grew gc).cell 2, (hpgb.grew gc).cell 3⟩)) ?_
      clear hK hS
      refine wpAnyR_n1 (i := 3) rfl (by kernel_rfl) ?_
      intro K' hK
      rw [if_pos (by rfl)]
      simp only [List.getElem_toArray, List.getElem_cons_succ, List.getElem_cons_zero]
      refine wp_pushAll (.tmp 31) (.tmp 33) 52 rfl wb.heap.size 70 4 40 _ Try.underlying52 info_page rfl (by decide) (.slice (some ⟨wb.heap.size, 0, none⟩) 0 0) [] (M.map pgC) rfl ((OwnL.empty wb _ _ _ (Nat.le_refl _) rfl).alloc _) _ M.length _ rfl (by rw [pgC_len]) (pgC_row _) (HOb.out.grew gc).listA (pgC_one _) (by simp; omega) (by simp; omega) gc.size ?_
      intro vA wA hownX hgrA hatA
      have gX : Grew wb wA := Grew.own gc hgrA (own_one _ _ _) (Nat.le_refl _)
      have hbX := hbc.own hgrA (own_ne _ _ (by omega))
      refine hK.out _ _ (.inr (fun _ => ⟨(hbxb.grew gX).cell 1, (hbxb.grew gX).cell 2, (hpgb.grew gX).cell 0, (hpgb.grew gX).cell 1, (hpgb.grew gX).cell 2, (hpgb.grew gX).cell 3⟩)) ?_
      clear hK hgrA hatA
  case' f1b =>
    intro K' hK
    rw [if_pos (by rfl)]
    simp only [List.getElem_toArray, List.getElem_cons_succ, List.getElem_cons_zero]
    go_wp2_with fail
    have gb := (Grew.refl wb).alloc (.cells #[.int .i64 a, .int .i64 b, .string s, .int .i64 u] 70)
    have hbb := Blk.new wb 70 #[.int .i64 a, .int .i64 b, .string s, .int .i64 u] rfl
    refine hK.out _ _ (.inr (fun _ => ⟨(hbxb.grew gb).cell 1, (hbxb.grew gb).cell 2, (hpgb.grew gb).cell 0, (hpgb.grew gb).cell 1, (hpgb.grew gb).cell 2, (hpgb.grew gb).cell 3⟩)) ?_
    clear hK
    refine wpAnyR_n1 (i := 0) rfl (by kernel_rfl) ?_
    intro K' hK
    rw [if_pos (by rfl)]
    simp only [List.getElem_toArray, List.getElem_cons_succ, List.getElem_cons_zero]
    go_wp2_with fail
    have gc := gb.alloc (.cells #[] 70)
    have hbc := hbb.alloc (.cells #[] 70)
    refine hK.out _ _ (.inr (fun _ => ⟨(hbxb.grew gc).cell 1, (hbxb.grew gc).cell 2, (hpgb.grew gc).cell 0, (hpgb.grew gc).cell 1, (hpgb.grew gc).cell 2, (hpgb.grew gc).cell 3⟩)) ?_
    clear hK hS
    refine wpAnyR_n1 (i := 3) rfl (by kernel_rfl) ?_
    intro K' hK
    rw [if_pos (by rfl)]
    simp only [List.getElem_toArray, List.getElem_cons_succ, List.getElem_cons_zero]
    refine wp_pushAll (.tmp 31) (.tmp 33) 52 rfl wb.heap.size 70 4 40 _ Try.underlying52 info_page rfl (by decide) (.slice (some ⟨wb.heap.size + 1, 0, none⟩) 0 0) [] (M.map pgC) rfl (OwnL.empty (wb.alloc (.cells #[.int .i64 a, .int .i64 b, .string s, .int .i64 u] 70)) wb.heap.size _ _ gb.size (by simp)) _ M.length _ rfl (by rw [pgC_len]) (pgC_row _) (HOb.out.grew gc).listA (pgC_one _) (by simp; omega) (by simp; omega) gc.size ?_
    intro vA wA hownX hgrA hatA
    have gX : Grew wb wA := Grew.own gc hgrA (fun k hk => by have := own_one _ _ _ k hk; omega) (Nat.le_refl _)
    have hbX := hbc.own hgrA (own_ne _ _ (by omega))
    refine hK.out _ _ (.inr (fun _ => ⟨(hbxb.grew gX).cell 1, (hbxb.grew gX).cell 2, (hpgb.grew gX).cell 0, (hpgb.grew gX).cell 1, (hpgb.grew gX).cell 2, (hpgb.grew gX).cell 3⟩)) ?_
    clear hK hgrA hatA
  all_goals
    refine wpAnyR_n1 (i := 6) rfl (by kernel_rfl) ?_
    intro K' hK
    rw [if_pos (by rfl)]
    simp only [List.getElem_toArray, List.getElem_cons_succ, List.getElem_cons_zero]
    refine wp_push (.tmp 34) (.tmp 36) 52 rfl wb.heap.size 70 4 40 _ Try.underlying52 info_page rfl (by decide) _ vA ([] ++ M.map pgC) (pgC ((a, b), (s, u))) rfl rfl hownX _ rfl hbX rfl (by rw [List.nil_append, pgC_len]; omega) (by rw [List.nil_append, pgC_len]; omega) gX.size M.length (by rw [List.nil_append, pgC_len]) ?_
    intro g6 c6 w6 hown6 hgr6 hat6 hlt6
    have g6' : Grew wb w6 := Grew.own gX hgr6 hownX.row_ge (Nat.le_refl _)
    refine hK.out _ _ (.inr (fun _ => ⟨(hbxb.grew g6').cell 1, (hbxb.grew g6').cell 2, (hpgb.grew g6').cell 0, (hpgb.grew g6').cell 1, (hpgb.grew g6').cell 2, (hpgb.grew g6').cell 3⟩)) ?_
    have HO6 := Lib.hid hown6
    have z1 := (hbxb.grew g6').cell 1
    have z2 := (hbxb.grew g6').cell 2
    have zf1 := (hbxb.grew g6').frozen 1
    have zf2 := (hbxb.grew g6').frozen 2
    clear hK hgr6 hat6 hown6 hownX hbX gX
    refine wpAnyR_takeQ (i := 10) (v := ?_) (some 41) rfl rfl (by kernel_rfl) (by kernel_rfl) (by kernel_rfl) (by kernel_rfl) (fun _ _ _ h => h) (Or.inl ⟨by rfl, ?_⟩) ?_
    rotate_left
    focus (intro wS hSw; (try dsimp only at hSw); go_simp; (try with_reducible rfl); (try (rw [if_pos (by omega)]; (try go_simp); (try with_reducible rfl))))
    try simp only [Act.put, List.setIfInBounds_toArray, List.set_cons_zero, List.set_cons_succ]
    refine wpAnyR_n1 (i := 11) rfl (by kernel_rfl) ?_
    intro K' hK
    rw [if_pos (by rfl)]
    simp only [List.getElem_toArray, List.getElem_cons_succ, List.getElem_cons_zero]
    go_wp2_with fail
    refine hK.out _ _ (.inl rfl) ?_
    clear hK z1 zf1
    have hb6 := (hbxb.grew g6').set_ 1 (.slice (some ⟨g6, 0, none⟩) (M.length + 1) c6)
    have z2' := hb6.cell 2
    have zf2' := hb6.frozen 2
    clear z2 zf2
    refine wpAnyR_takeQ (i := 12) (v := ?_) (some 42) rfl rfl (by kernel_rfl) (by kernel_rfl) (by kernel_rfl) (by kernel_rfl) (fun _ _ _ h => h) (Or.inl ⟨by rfl, ?_⟩) ?_
    rotate_left
    focus (intro wS hSw; (try dsimp only at hSw); go_simp; (try with_reducible rfl); (try (rw [if_pos (by omega)]; (try go_simp); (try with_reducible rfl))))
    try simp only [Act.put, List.setIfInBounds_toArray, List.set_cons_zero, List.set_cons_succ]
    refine wpAnyR_n1 (i := 13) rfl (by kernel_rfl) ?_
    intro K' hK
    rw [if_pos (by rfl)]
    simp only [List.getElem_toArray, List.getElem_cons_succ, List.getElem_cons_zero]
    go_wp2_with fail
    refine hK.out _ _ (.inl rfl) ?_
    refine wpAnyR_done (by kernel_rfl) ?_ _
    clear hK z2' zf2'
    go_wp2_with fail
    refine wp_region_R [] (fun w' : World => w'.cell? ⟨w.heap.size, 0, none⟩ = some (.int .i64 cap) ∧ w'.cell? ⟨w.heap.size, 1, none⟩ = some (.slice (some ⟨g6, 0, none⟩) (M.length + 1) c6) ∧ w'.cell? ⟨w.heap.size, 2, none⟩ = some (.int .i64 (h + 1)) ∧ w'.cell? ⟨w.heap.size, 3, none⟩ = some (.int .i64 ms) ∧ w'.cell? ⟨w1.heap.size, 2, none⟩ = some (.string s) ∧ w'.cell? ⟨w1.heap.size, 3, none⟩ = some (.int .i64 u)) (by kernel_rfl) ?_
    obtain ⟨w8, hw8⟩ : ∃ w8, w8 = (((w6.setCell ⟨w.heap.size, 1, none⟩ (.slice (some ⟨g6, 0, none⟩) (M.length + 1) c6)).setCell ⟨w.heap.size, 2, none⟩ (.int .i64 (h + 1))).drew) := ⟨_, rfl⟩
    have hT8 : Turned (fun k => k = w.heap.size ∨ k = w.heap.size + 1) w6 w8 := by
      rw [hw8]
      exact (((Turned.refl _ _).setCell (p := ⟨w.heap.size, 1, none⟩) (fun _ => .inl rfl) _).setCell (p := ⟨w.heap.size, 2, none⟩) (fun _ => .inl rfl) _).drew
    have hbx8 : Blk w8 w.heap.size 54 #[.int .i64 cap, (.slice (some ⟨g6, 0, none⟩) (M.length + 1) c6), .int .i64 (h + 1), .int .i64 ms] := by
      rw [hw8]
      exact Blk.drew (hb6.set_ 2 _)
    have hpg8 := (hpgb.grew g6').turned hT8 (by omega)
    have hrx8 : Blk w8 (w.heap.size + 1) 54 #[.int .i64 0, .slice none 0 0, .int .i64 0, .int .i64 0] := by
      rw [hw8]
      exact Blk.drew (((hrxb.grew g6').far (by simp) _).far (by simp) _)
    have HO8 := Lib.hid (HO6.out.kept hT8 (fun g hg hs => by have := (HO6.out.own_ge hg).1; omega))
    have hg8 : Grew w w8 := (hgb.trans g6').turn hT8 (fun k hk => by omega)
    rw [← hw8]
    clear hw8 hb6
    have hS := (show (fun w' : World => w'.cell? ⟨w.heap.size, 0, none⟩ = some (.int .i64 cap) ∧ w'.cell? ⟨w.heap.size, 1, none⟩ = some (.slice (some ⟨g6, 0, none⟩) (M.length + 1) c6) ∧ w'.cell? ⟨w.heap.size, 2, none⟩ = some (.int .i64 (h + 1)) ∧ w'.cell? ⟨w.heap.size, 3, none⟩ = some (.int .i64 ms) ∧ w'.cell? ⟨w1.heap.size, 2, none⟩ = some (.string s) ∧ w'.cell? ⟨w1.heap.size, 3, none⟩ = some (.int .i64 u)) w8 from ⟨hbx8.cell 0, hbx8.cell 1, hbx8.cell 2, hbx8.cell 3, hpg8.cell 2, hpg8.cell 3⟩)
    refine wpAnyR_take (i := 0) (v := ?_) [5, 6, 7, 8] (some 43) rfl rfl (by kernel_rfl) (by kernel_rfl) (by kernel_rfl) (by kernel_rfl) (by kernel_rfl) (by kernel_rfl) (by kernel_rfl) (fun _ _ _ h => h) (Or.inl ⟨by rfl, ?_⟩) hS ?_
    rotate_left
    focus (intro wS hSw; (try dsimp only at hSw); go_simp; (try with_reducible rfl); (try (rw [if_pos (by omega)]; (try go_simp); (try with_reducible rfl))))
    try simp only [Act.put, List.setIfInBounds_toArray, List.set_cons_zero, List.set_cons_succ]
    refine wpAnyR_takeQ (i := 1) (v := ?_) (some 44) rfl rfl (by kernel_rfl) (by kernel_rfl) (by kernel_rfl) (by kernel_rfl) (fun _ _ _ h => h) (Or.inl ⟨by rfl, ?_⟩) ?_
    rotate_left
    focus (intro wS hSw; (try dsimp only at hSw); go_simp; (try with_reducible rfl); (try (rw [if_pos (by omega)]; (try go_simp); (try with_reducible rfl))))
    try simp only [Act.put, List.setIfInBounds_toArray, List.set_cons_zero, List.set_cons_succ]
    refine wpAnyR_take (i := 2) (v := ?_) [6, 7, 8] (some 45) rfl rfl (by kernel_rfl) (by kernel_rfl) (by kernel_rfl) (by kernel_rfl) (by kernel_rfl) (by kernel_rfl) (by kernel_rfl) (fun _ _ _ h => h) (Or.inl ⟨by rfl, ?_⟩) hS ?_
    rotate_left
    focus (intro wS hSw; (try dsimp only at hSw); go_simp; (try with_reducible rfl); (try (rw [if_pos (by omega)]; (try go_simp); (try with_reducible rfl))))
    try simp only [Act.put, List.setIfInBounds_toArray, List.set_cons_zero, List.set_cons_succ]
    refine wpAnyR_takeQ (i := 3) (v := ?_) (some 46) rfl rfl (by kernel_rfl) (by kernel_rfl) (by kernel_rfl) (by kernel_rfl) (fun _ _ _ h => h) (Or.inl ⟨by rfl, ?_⟩) ?_
    rotate_left
    focus (intro wS hSw; (try dsimp only at hSw); go_simp; (try with_reducible rfl); (try (rw [if_pos (by omega)]; (try go_simp); (try with_reducible rfl))))
    try simp only [Act.put, List.setIfInBounds_toArray, List.set_cons_zero, List.set_cons_succ]
    refine wpAnyR_take (i := 4) (v := ?_) [7, 8] (some 47) rfl rfl (by kernel_rfl) (by kernel_rfl) (by kernel_rfl) (by kernel_rfl) (by kernel_rfl) (by kernel_rfl) (by kernel_rfl) (fun _ _ _ h => h) (Or.inl ⟨by rfl, ?_⟩) hS ?_
    rotate_left
    focus (intro wS hSw; (try dsimp only at hSw); go_simp; (try with_reducible rfl); (try (rw [if_pos (by omega)]; (try go_simp); (try with_reducible rfl))))
    try simp only [Act.put, List.setIfInBounds_toArray, List.set_cons_zero, List.set_cons_succ]
    have r0 := hrx8.cell 0
    have r1 := hrx8.cell 1
    have r2 := hrx8.cell 2
    have r3 := hrx8.cell 3
    have q0 := hrx8.frozen 0
    have q1 := hrx8.frozen 1
    have q2 := hrx8.frozen 2
    have q3 := hrx8.frozen 3
    have hl8 := hrx8.lt
    refine wpAnyR_n1 (i := 5) rfl (by kernel_rfl) ?_
    intro K' hK
    rw [if_pos (by rfl)]
    simp only [List.getElem_toArray, List.getElem_cons_succ, List.getElem_cons_zero]
    go_wp2_with fail
    obtain ⟨w9, hw9⟩ : ∃ w9, w9 = ((((w8.setCell ⟨w.heap.size + 1, 0, none⟩ (.int .i64 cap)).setCell ⟨w.heap.size + 1, 1, none⟩ (.slice (some ⟨g6, 0, none⟩) (M.length + 1) c6)).setCell ⟨w.heap.size + 1, 2, none⟩ (.int .i64 (h + 1))).setCell ⟨w.heap.size + 1, 3, none⟩ (.int .i64 ms)) := ⟨_, rfl⟩
    have hT9 : Turned (fun k => k = w.heap.size + 1) w8 w9 := by
      rw [hw9]
      exact ((((Turned.refl (fun k => k = w.heap.size + 1) w8).setCell (p := ⟨w.heap.size + 1, 0, none⟩) (fun _ => rfl) _).setCell (p := ⟨w.heap.size + 1, 1, none⟩) (fun _ => rfl) _).setCell (p := ⟨w.heap.size + 1, 2, none⟩) (fun _ => rfl) _).setCell (p := ⟨w.heap.size + 1, 3, none⟩) (fun _ => rfl) _
    have hrx9 : Blk w9 (w.heap.size + 1) 54 #[.int .i64 cap, (.slice (some ⟨g6, 0, none⟩) (M.length + 1) c6), .int .i64 (h + 1), .int .i64 ms] := by
      rw [hw9]
      exact (((hrx8.set_ 0 _).set_ 1 _).set_ 2 _).set_ 3 _
    have hbx9 := hbx8.turned hT9 (by omega)
    have hpg9 := hpg8.turned hT9 (by omega)
    have HO9 := Lib.hid (HO8.out.kept hT9 (fun g hg hs => by have := (HO8.out.own_ge hg).1; omega))
    have hg9 : Grew w w9 := hg8.turn hT9 (fun k hk => by omega)
    rw [← hw9]
    refine hK.out _ _ (.inr (fun _ => ⟨hbx9.cell 0, hbx9.cell 1, hbx9.cell 2, hbx9.cell 3, hpg9.cell 2, hpg9.cell 3⟩)) ?_
    clear hK hw9 r0 r1 r2 r3 q0 q1 q2 q3 hS
    refine wpAnyR_takeQ (i := 6) (v := ?_) (some 7) rfl rfl (by kernel_rfl) (by kernel_rfl) (by kernel_rfl) (by kernel_rfl) (fun _ _ _ h => h) (Or.inl ⟨by rfl, ?_⟩) ?_
    rotate_left
    focus (intro wS hSw; (try dsimp only at hSw); go_simp; (try with_reducible rfl); (try (rw [if_pos (by omega)]; (try go_simp); (try with_reducible rfl))))
    try simp only [Act.put, List.setIfInBounds_toArray, List.set_cons_zero, List.set_cons_succ]
    refine wpAnyR_takeQ (i := 7) (v := ?_) (some 8) rfl rfl (by kernel_rfl) (by kernel_rfl) (by kernel_rfl) (by kernel_rfl) (fun _ _ _ h => h) (Or.inl ⟨by rfl, ?_⟩) ?_
    rotate_left
    focus (intro wS hSw; (try dsimp only at hSw); go_simp; (try with_reducible rfl); (try (rw [if_pos (by omega)]; (try go_simp); (try with_reducible rfl))))
    try simp only [Act.put, List.setIfInBounds_toArray, List.set_cons_zero, List.set_cons_succ]
    refine wpAnyR_takeQ (i := 8) (v := ?_) (some 9) rfl rfl (by kernel_rfl) (by kernel_rfl) (by kernel_rfl) (by kernel_rfl) (fun _ _ _ h => h) (Or.inl ⟨by rfl, ?_⟩) ?_
    rotate_left
    focus (intro wS hSw; (try dsimp only at hSw); go_simp; (try with_reducible rfl); (try (rw [if_pos (by omega)]; (try go_simp); (try with_reducible rfl))))
    try simp only [Act.put, List.setIfInBounds_toArray, List.set_cons_zero, List.set_cons_succ]
    refine wpAnyR_done (by kernel_rfl) ?_ _
    have r0 := hrx9.cell 0
    have r1 := hrx9.cell 1
    have r2 := hrx9.cell 2
    have r3 := hrx9.cell 3
    have hl9 := hrx9.lt
    have hME : (M ++ [((a, b), (s, u))]).length = M.length + 1 := by simp
    have HME := Lib.hid hME
    clear hME
    go_wp2_with fail
    refine bodyPost_ret (by first | (simp [*, results, Try.results29, go_sem]; rfl) | simp [*, results, Try.results29, go_sem]) rfl ?_
    rw [HMM.out]
    refine ⟨some ⟨g6, 0, none⟩, c6, by rw [HME.out], ?_, ?_, ?_, hg9⟩
    · rw [HME.out, List.map_append]
      have := HO9.out.rebase (base' := w.heap.size) hgb.size
      rw [List.nil_append] at this
      exact this
    · have := HO9.out.len; rw [HME.out]; omega
    · exact HO9.out.len.2.2
end
end Go.Proofs.Ytfmhiocigoejjaa
