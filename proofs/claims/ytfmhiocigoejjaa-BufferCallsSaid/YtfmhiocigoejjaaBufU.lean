/- The reference's remove. -/
import Derived.Test.YtfmhiocigoejjaaBufT
import Derived.Test.YtfmhiocigoejjaaApp2
import Derived.Test.YtfmhiocigoejjaaOrd3
import Derived.IntWalk
namespace Go.Proofs.Ytfmhiocigoejjaa
set_option linter.unusedVariables false
set_option linter.unusedSimpArgs false
set_option linter.unusedSectionVars false
open Go.RowKit
attribute [local go_sem ↓] Go.wp_at_zero Go.wp_at_succ
theorem info_page : (Try.prog.info? 70).map (fun i => (i.zero, i.size, i.bytes)) = some (some (.agg #[.int .i64 0, .int .i64 0, .string ⟨#[]⟩, .int .i64 0]), 4, 40) := by kernel_rfl
theorem pgC_len (l : List Pg) : (l.map pgC).length = l.length := by simp
theorem pgC_row (l : List Pg) : ∀ r ∈ l.map pgC, r.length = 4 := fun r hr => by obtain ⟨x, _, rfl⟩ := List.mem_map.1 hr; rfl
theorem pgC_one (l : List Pg) : ∀ r ∈ l.map pgC, r.all (·.oneCell') = true := fun r hr => by obtain ⟨x, _, rfl⟩ := List.mem_map.1 hr; rfl
section
variable (cap : Int) (A : Option Addr) (c : Nat) (h ms : Int) (L : List Pg)
set_option maxRecDepth 100000 in
set_option maxHeartbeats 2000000 in
theorem remove_any (w : World) (B : Nat) (hB : B ≤ w.heap.size) (hp : PgsAt w B A L) (hl : L.length ≤ 100000) (hc : L.length ≤ c) (hc9 : c ≤ 9223372036854775807) (i : Nat) (hi : i < L.length) :
    Calls Try.prog 38 #[.agg #[.int .i64 cap, .slice A L.length c, .int .i64 h, .int .i64 ms], .int .i64 (i : Int)] w fun e w' => ∃ A' c', e = .returned (.agg #[.int .i64 cap, .slice A' (L.eraseIdx i).length c', .int .i64 h, .int .i64 ms]) ∧ OwnL w' w.heap.size 70 4 (.slice A' (L.eraseIdx i).length c') ((L.eraseIdx i).map pgC) ∧ (L.eraseIdx i).length ≤ c' ∧ c' ≤ 9223372036854775807 ∧ Grew w w' := by
  obtain ⟨b, off, rfl, hb, _⟩ := hp.at_ hi
  have HP := Lib.hid hp
  have hsum : IntKind.i64.wrap ((i : Int) + 1) = (i : Int) + 1 := IntWalk.i64_in _ (by omega)
  have hpos : (0 : Int) ≤ (i : Int) + 1 := by omega
  have hton : ((i : Int) + 1).toNat = i + 1 := by omega
  have hic : i ≤ c := by omega
  have hic1 : i + 1 ≤ c := by omega
  have hil : (i : Int) + 1 ≤ (L.length : Int) := by omega
  clear hp
  by_cases hcc : c = i + 1
  · subst hcc
    go_enter Try.func38, Try.ntmps38
    go_wp2_with fail
    refine wp_region_R [13] (fun w' : World => w'.cell? ⟨w.heap.size, 1, none⟩ = some (.slice (some ⟨b, off, none⟩) L.length (i + 1))) (by kernel_rfl) ?_
    obtain ⟨wa, hwa⟩ : ∃ wa, wa = (((w.alloc (.cells #[.int .i64 cap, .slice (some ⟨b, off, none⟩) L.length (i + 1), .int .i64 h, .int .i64 ms] 54)).alloc (.cells #[.int .i64 0, .slice none 0 0, .int .i64 0, .int .i64 0] 54)).drew) := ⟨_, rfl⟩
    have hga : Grew w wa := by rw [hwa]; exact (((Grew.refl w).alloc _).alloc _).drew
    have hbx : Blk wa w.heap.size 54 #[.int .i64 cap, .slice (some ⟨b, off, none⟩) L.length (i + 1), .int .i64 h, .int .i64 ms] := by rw [hwa]; exact ((Blk.new w _ _ rfl).alloc _).drew
    have hrx : Blk wa (w.heap.size + 1) 54 #[.int .i64 0, .slice none 0 0, .int .i64 0, .int .i64 0] := by rw [hwa]; exact (Blk.new _ _ _ (by simp)).drew
    rw [← hwa]
    clear hwa
    have hsa := hga.size
    have hbl := hbx.lt
    have hrl := hrx.lt
    have hS := hbx.cell 1
    refine wpAnyR_takeQ (i := 1) (v := ?_) (some 6) rfl rfl (by kernel_rfl) (by kernel_rfl) (by kernel_rfl) (by kernel_rfl) (fun _ _ _ h => h) (Or.inl ⟨by rfl, ?_⟩) ?_
    rotate_left
    focus (intro wS hSw; (try dsimp only at hSw); go_simp; (try with_reducible rfl); (try (rw [if_pos (by omega)]; (try go_simp); (try with_reducible rfl))))
    try simp only [Act.put, List.setIfInBounds_toArray, List.set_cons_zero, List.set_cons_succ]
    refine wpAnyR_take (i := 2) (v := ?_) [4, 5, 11, 12, 13] (some 7) rfl rfl (by kernel_rfl) (by kernel_rfl) (by kernel_rfl) (by kernel_rfl) (by kernel_rfl) (by kernel_rfl) (by kernel_rfl) (fun _ _ _ h => h) (Or.inl ⟨by rfl, ?_⟩) hS ?_
    rotate_left
    focus (intro wS hSw; (try dsimp only at hSw); go_simp; (try with_reducible rfl); (try (rw [if_pos (by omega)]; (try go_simp); (try with_reducible rfl))))
    try simp only [Act.put, List.setIfInBounds_toArray, List.set_cons_zero, List.set_cons_succ]
    refine wpAnyR_takeQ (i := 3) (v := ?_) (some 8) rfl rfl (by kernel_rfl) (by kernel_rfl) (by kernel_rfl) (by kernel_rfl) (fun _ _ _ h => h) (Or.inl ⟨by rfl, ?_⟩) ?_
    rotate_left
    focus (intro wS hSw; (try dsimp only at hSw); go_simp; (try with_reducible rfl); (try (rw [if_pos (by omega)]; (try go_simp); (try with_reducible rfl))))
    try simp only [Act.put, List.setIfInBounds_toArray, List.set_cons_zero, List.set_cons_succ]
    refine wpAnyR_takeQ (i := 4) (v := ?_) (some 9) rfl rfl (by kernel_rfl) (by kernel_rfl) (by kernel_rfl) (by kernel_rfl) (fun _ _ _ h => h) (Or.inl ⟨by rfl, ?_⟩) ?_
    rotate_left
    focus (intro wS hSw; (try dsimp only at hSw); go_simp; (try with_reducible rfl); (try (rw [if_pos (by omega)]; (try go_simp); (try with_reducible rfl))))
    try simp only [Act.put, List.setIfInBounds_toArray, List.set_cons_zero, List.set_cons_succ]
    refine wpAnyR_takeQ (i := 6) (v := ?_) (some 11) rfl rfl (by kernel_rfl) (by kernel_rfl) (by kernel_rfl) (by kernel_rfl) (fun _ _ _ h => h) (Or.inl ⟨by rfl, ?_⟩) ?_
    rotate_left
    focus (intro wS hSw; (try dsimp only at hSw); go_simp; (try with_reducible rfl); (try (rw [if_pos (by omega)]; (try go_simp); (try with_reducible rfl))))
    try simp only [Act.put, List.setIfInBounds_toArray, List.set_cons_zero, List.set_cons_succ]
    refine wpAnyR_take (i := 7) (v := ?_) [10, 11, 12, 13] (some 12) rfl rfl (by kernel_rfl) (by kernel_rfl) (by kernel_rfl) (by kernel_rfl) (by kernel_rfl) (by kernel_rfl) (by kernel_rfl) (fun _ _ _ h => h) (Or.inl ⟨by rfl, ?_⟩) hS ?_
    rotate_left
    focus (intro wS hSw; (try dsimp only at hSw); go_simp; (try with_reducible rfl); (try (rw [if_pos (by omega)]; (try go_simp); (try with_reducible rfl))))
    try simp only [Act.put, List.setIfInBounds_toArray, List.set_cons_zero, List.set_cons_succ]
    refine wpAnyR_takeQ (i := 8) (v := ?_) (some 13) rfl rfl (by kernel_rfl) (by kernel_rfl) (by kernel_rfl) (by kernel_rfl) (fun _ _ _ h => h) (Or.inl ⟨by rfl, ?_⟩) ?_
    rotate_left
    focus (intro wS hSw; (try dsimp only at hSw); go_simp; (try with_reducible rfl); (try (rw [if_pos (by omega)]; (try go_simp); (try with_reducible rfl))))
    try simp only [Act.put, List.setIfInBounds_toArray, List.set_cons_zero, List.set_cons_succ]
    refine wpAnyR_takeQ (i := 9) (v := ?_) (some 14) rfl rfl (by kernel_rfl) (by kernel_rfl) (by kernel_rfl) (by kernel_rfl) (fun _ _ _ h => h) (Or.inl ⟨by rfl, ?_⟩) ?_
    rotate_left
    focus (intro wS hSw; (try dsimp only at hSw); go_simp; (try with_reducible rfl); (try (rw [if_pos (by omega)]; (try go_simp); (try with_reducible rfl))))
    try simp only [Act.put, List.setIfInBounds_toArray, List.set_cons_zero, List.set_cons_succ]
    refine wpAnyR_takeQ (i := 10) (v := ?_) (some 15) rfl rfl (by kernel_rfl) (by kernel_rfl) (by kernel_rfl) (by kernel_rfl) (fun _ _ _ h => h) (Or.inl ⟨by rfl, ?_⟩) ?_
    rotate_left
    focus (intro wS hSw; (try dsimp only at hSw); go_simp; (try with_reducible rfl); (try (rw [if_pos (by omega)]; (try go_simp); (try with_reducible rfl))))
    try simp only [Act.put, List.setIfInBounds_toArray, List.set_cons_zero, List.set_cons_succ]
    refine wpAnyR_n1 (i := 0) rfl (by kernel_rfl) ?_
    intro K' hK
    rw [if_pos (by rfl)]
    simp only [List.getElem_toArray, List.getElem_cons_succ, List.getElem_cons_zero]
    go_wp2_with fail
    have gb := (Grew.refl wa).alloc (.cells #[] 70)
    refine hK.out _ _ (.inr (fun _ => (hbx.grew gb).cell 1)) ?_
    clear hK hS
    refine wpAnyR_n1 (i := 5) rfl (by kernel_rfl) ?_
    intro K' hK
    rw [if_pos (by rfl)]
    simp only [List.getElem_toArray, List.getElem_cons_succ, List.getElem_cons_zero]
    refine wp_pushAll (.tmp 5) (.tmp 9) 52 rfl wa.heap.size 70 4 40 _ Try.underlying52 info_page rfl (by decide) _ [] ((L.take i).map pgC) rfl (OwnL.empty wa _ _ _ (Nat.le_refl _) rfl) _ i _ rfl (by rw [pgC_len, List.length_take]; omega) (pgC_row _) ((by rw [List.map_take]; exact (((HP.out.hold hB (hga.trans gb))).mono (Nat.le_trans hB (hga.trans gb).size)).take i) : ListAt _ _ 4 _ ((L.take i).map pgC)) (pgC_one _) (by simp; omega) (by simp; omega) gb.size ?_
    intro v1 w1 hown1 hgr1 hat1
    have g1 : Grew wa w1 := Grew.own gb hgr1 (own_one _ _ _) (Nat.le_refl _)
    refine hK.out _ _ (.inr (fun _ => (hbx.grew g1).cell 1)) ?_
    clear hK hgr1 hat1
    refine wpAnyR_n1 (i := 11) rfl (by kernel_rfl) ?_
    intro K' hK
    rw [if_pos (by rfl)]
    simp only [List.getElem_toArray, List.getElem_cons_succ, List.getElem_cons_zero]
    refine wp_pushAll (.tmp 10) (.tmp 15) 52 rfl wa.heap.size 70 4 40 _ Try.underlying52 info_page rfl (by decide) _ ([] ++ (L.take i).map pgC) ((L.drop (i + 1)).map pgC) rfl hown1 _ 0 _ rfl (by rw [pgC_len, List.length_drop]; omega) (pgC_row _) ((by rw [List.drop_of_length_le (by omega)]; exact ListAt.none _) : ListAt _ _ 4 _ ((L.drop (i + 1)).map pgC)) (pgC_one _) (by simp; omega) (by simp; omega) g1.size ?_
    intro v2 w2 hown2 hgr2 hat2
    have g2 : Grew wa w2 := Grew.own g1 hgr2 hown1.row_ge (Nat.le_refl _)
    have hE : [] ++ (L.take i).map pgC ++ (L.drop (i + 1)).map pgC = (L.eraseIdx i).map pgC := by rw [List.nil_append, ← List.map_append, List.eraseIdx_eq_take_drop_succ]
    rw [hE] at hown2
    obtain ⟨A2, c2, hv2, hc2, hc29, hl2⟩ := hown2.listAt
    rw [pgC_len] at hv2 hc2
    subst hv2
    refine hK.out _ _ (.inr (fun _ => (hbx.grew g2).cell 1)) ?_
    clear hK hgr2 hat2 hE hown1 g1
    have hS := (hbx.grew g2).cell 1
    have zf := (hbx.grew g2).frozen 1
    refine wpAnyR_takeQ (i := 12) (v := ?_) (some 17) rfl rfl (by kernel_rfl) (by kernel_rfl) (by kernel_rfl) (by kernel_rfl) (fun _ _ _ h => h) (Or.inl ⟨by rfl, ?_⟩) ?_
    rotate_left
    focus (intro wS hSw; (try dsimp only at hSw); go_simp; (try with_reducible rfl); (try (rw [if_pos (by omega)]; (try go_simp); (try with_reducible rfl))))
    try simp only [Act.put, List.setIfInBounds_toArray, List.set_cons_zero, List.set_cons_succ]
    refine wpAnyR_n1 (i := 13) rfl (by kernel_rfl) ?_
    intro K' hK
    rw [if_pos (by rfl)]
    simp only [List.getElem_toArray, List.getElem_cons_succ, List.getElem_cons_zero]
    go_wp2_with fail
    refine hK.out _ _ (.inl rfl) ?_
    refine wpAnyR_done (by kernel_rfl) ?_ _
    have hbx3 := (hbx.grew g2).set_ 1 (.slice A2 (L.eraseIdx i).length c2)
    have hrx3 := (hrx.grew g2).far (p := ⟨w.heap.size, 1, none⟩) (by simp) (.slice A2 (L.eraseIdx i).length c2)
    have hg3 : Grew w (w2.setCell ⟨w.heap.size, 1, none⟩ (.slice A2 (L.eraseIdx i).length c2)) := (hga.trans g2).setCell (p := ⟨w.heap.size, 1, none⟩) (Nat.le_refl _) _
    have HO2 := Lib.hid hown2
    have hT3 : Turned (fun k => k = w.heap.size ∨ k = w.heap.size + 1) w2 (w2.setCell ⟨w.heap.size, 1, none⟩ (.slice A2 (L.eraseIdx i).length c2)) := (Turned.refl _ _).setCell (p := ⟨w.heap.size, 1, none⟩) (fun _ => .inl rfl) _
    have z0 := hbx3.cell 0
    have z1 := hbx3.cell 1
    have z2 := hbx3.cell 2
    have z3 := hbx3.cell 3
    have y0 := hrx3.cell 0
    have y1 := hrx3.cell 1
    have y2 := hrx3.cell 2
    have y3 := hrx3.cell 3
    have zf0 := hrx3.frozen 0
    have zf1 := hrx3.frozen 1
    have zf2 := hrx3.frozen 2
    have zf3 := hrx3.frozen 3
    have hz3 := hT3.size
    clear hK hS zf hl2 hown2
    go_wp2_with fail
    refine bodyPost_ret (by first | (simp [*, results, Try.results38, go_sem]; rfl) | simp [*, results, Try.results38, go_sem]) rfl ?_
    refine ⟨A2, c2, rfl, ?_, hc2, hc29, by (repeat' first | (with_reducible exact Grew.refl _) | (with_reducible assumption) | (with_reducible refine Grew.alloc ?_ _) | (with_reducible refine Grew.drew ?_) | (with_reducible refine Grew.drewN ?_ _) | (with_reducible refine Grew.setRow ?_ (by first | (simp; done) | (simp; omega) | omega) _) | (with_reducible refine Grew.setCell ?_ (by first | (simp; done) | (simp; omega) | omega) _) | ((with_reducible apply Grew.trans); rotate_left; (with_reducible assumption)) | ((with_reducible apply Grew.turn); rotate_left; (with_reducible assumption); (focus (intro i hi; first | omega | (simp at hi; omega)))) | fail)⟩
    refine (HO2.out.kept (S := fun k => k = w.heap.size ∨ k = w.heap.size + 1) ?_ (fun g hg hs => by have := (HO2.out.own_ge hg).1; omega)).rebase (by omega)
    exact (((((hT3.setCell (p := ⟨w.heap.size + 1, 0, none⟩) (fun _ => .inr rfl) _)).setCell (p := ⟨w.heap.size + 1, 1, none⟩) (fun _ => .inr rfl) _).setCell (p := ⟨w.heap.size + 1, 2, none⟩) (fun _ => .inr rfl) _).setCell (p := ⟨w.heap.size + 1, 3, none⟩) (fun _ => .inr rfl) _)
  · go_enter Try.func38, Try.ntmps38
    go_wp2_with fail
    refine wp_region_R [13] (fun w' : World => w'.cell? ⟨w.heap.size, 1, none⟩ = some (.slice (some ⟨b, off, none⟩) L.length c)) (by kernel_rfl) ?_
    obtain ⟨wa, hwa⟩ : ∃ wa, wa = (((w.alloc (.cells #[.int .i64 cap, .slice (some ⟨b, off, none⟩) L.length c, .int .i64 h, .int .i64 ms] 54)).alloc (.cells #[.int .i64 0, .slice none 0 0, .int .i64 0, .int .i64 0] 54)).drew) := ⟨_, rfl⟩
    have hga : Grew w wa := by rw [hwa]; exact (((Grew.refl w).alloc _).alloc _).drew
    have hbx : Blk wa w.heap.size 54 #[.int .i64 cap, .slice (some ⟨b, off, none⟩) L.length c, .int .i64 h, .int .i64 ms] := by rw [hwa]; exact ((Blk.new w _ _ rfl).alloc _).drew
    have hrx : Blk wa (w.heap.size + 1) 54 #[.int .i64 0, .slice none 0 0, .int .i64 0, .int .i64 0] := by rw [hwa]; exact (Blk.new _ _ _ (by simp)).drew
    rw [← hwa]
    clear hwa
    have hsa := hga.size
    have hbl := hbx.lt
    have hrl := hrx.lt
    have hS := hbx.cell 1
    refine wpAnyR_takeQ (i := 1) (v := ?_) (some 6) rfl rfl (by kernel_rfl) (by kernel_rfl) (by kernel_rfl) (by kernel_rfl) (fun _ _ _ h => h) (Or.inl ⟨by rfl, ?_⟩) ?_
    rotate_left
    focus (intro wS hSw; (try dsimp only at hSw); go_simp; (try with_reducible rfl); (try (rw [if_pos (by omega)]; (try go_simp); (try with_reducible rfl))))
    try simp only [Act.put, List.setIfInBounds_toArray, List.set_cons_zero, List.set_cons_succ]
    refine wpAnyR_take (i := 2) (v := ?_) [4, 5, 11, 12, 13] (some 7) rfl rfl (by kernel_rfl) (by kernel_rfl) (by kernel_rfl) (by kernel_rfl) (by kernel_rfl) (by kernel_rfl) (by kernel_rfl) (fun _ _ _ h => h) (Or.inl ⟨by rfl, ?_⟩) hS ?_
    rotate_left
    focus (intro wS hSw; (try dsimp only at hSw); go_simp; (try with_reducible rfl); (try (rw [if_pos (by omega)]; (try go_simp); (try with_reducible rfl))))
    try simp only [Act.put, List.setIfInBounds_toArray, List.set_cons_zero, List.set_cons_succ]
    refine wpAnyR_takeQ (i := 3) (v := ?_) (some 8) rfl rfl (by kernel_rfl) (by kernel_rfl) (by kernel_rfl) (by kernel_rfl) (fun _ _ _ h => h) (Or.inl ⟨by rfl, ?_⟩) ?_
    rotate_left
    focus (intro wS hSw; (try dsimp only at hSw); go_simp; (try with_reducible rfl); (try (rw [if_pos (by omega)]; (try go_simp); (try with_reducible rfl))))
    try simp only [Act.put, List.setIfInBounds_toArray, List.set_cons_zero, List.set_cons_succ]
    refine wpAnyR_takeQ (i := 4) (v := ?_) (some 9) rfl rfl (by kernel_rfl) (by kernel_rfl) (by kernel_rfl) (by kernel_rfl) (fun _ _ _ h => h) (Or.inl ⟨by rfl, ?_⟩) ?_
    rotate_left
    focus (intro wS hSw; (try dsimp only at hSw); go_simp; (try with_reducible rfl); (try (rw [if_pos (by omega)]; (try go_simp); (try with_reducible rfl))))
    try simp only [Act.put, List.setIfInBounds_toArray, List.set_cons_zero, List.set_cons_succ]
    refine wpAnyR_takeQ (i := 6) (v := ?_) (some 11) rfl rfl (by kernel_rfl) (by kernel_rfl) (by kernel_rfl) (by kernel_rfl) (fun _ _ _ h => h) (Or.inl ⟨by rfl, ?_⟩) ?_
    rotate_left
    focus (intro wS hSw; (try dsimp only at hSw); go_simp; (try with_reducible rfl); (try (rw [if_pos (by omega)]; (try go_simp); (try with_reducible rfl))))
    try simp only [Act.put, List.setIfInBounds_toArray, List.set_cons_zero, List.set_cons_succ]
    refine wpAnyR_take (i := 7) (v := ?_) [10, 11, 12, 13] (some 12) rfl rfl (by kernel_rfl) (by kernel_rfl) (by kernel_rfl) (by kernel_rfl) (by kernel_rfl) (by kernel_rfl) (by kernel_rfl) (fun _ _ _ h => h) (Or.inl ⟨by rfl, ?_⟩) hS ?_
    rotate_left
    focus (intro wS hSw; (try dsimp only at hSw); go_simp; (try with_reducible rfl); (try (rw [if_pos (by omega)]; (try go_simp); (try with_reducible rfl))))
    try simp only [Act.put, List.setIfInBounds_toArray, List.set_cons_zero, List.set_cons_succ]
    refine wpAnyR_takeQ (i := 8) (v := ?_) (some 13) rfl rfl (by kernel_rfl) (by kernel_rfl) (by kernel_rfl) (by kernel_rfl) (fun _ _ _ h => h) (Or.inl ⟨by rfl, ?_⟩) ?_
    rotate_left
    focus (intro wS hSw; (try dsimp only at hSw); go_simp; (try with_reducible rfl); (try (rw [if_pos (by omega)]; (try go_simp); (try with_reducible rfl))))
    try simp only [Act.put, List.setIfInBounds_toArray, List.set_cons_zero, List.set_cons_succ]
    refine wpAnyR_takeQ (i := 9) (v := ?_) (some 14) rfl rfl (by kernel_rfl) (by kernel_rfl) (by kernel_rfl) (by kernel_rfl) (fun _ _ _ h => h) (Or.inl ⟨by rfl, ?_⟩) ?_
    rotate_left
    focus (intro wS hSw; (try dsimp only at hSw); go_simp; (try with_reducible rfl); (try (rw [if_pos (by omega)]; (try go_simp); (try with_reducible rfl))))
    try simp only [Act.put, List.setIfInBounds_toArray, List.set_cons_zero, List.set_cons_succ]
    refine wpAnyR_takeQ (i := 10) (v := ?_) (some 15) rfl rfl (by kernel_rfl) (by kernel_rfl) (by kernel_rfl) (by kernel_rfl) (fun _ _ _ h => h) (Or.inl ⟨by rfl, ?_⟩) ?_
    rotate_left
    focus (intro wS hSw; (try dsimp only at hSw); go_simp; (try with_reducible rfl); (try (rw [if_pos (by omega)]; (try go_simp); (try with_reducible rfl))))
    try simp only [Act.put, List.setIfInBounds_toArray, List.set_cons_zero, List.set_cons_succ]
    refine wpAnyR_n1 (i := 0) rfl (by kernel_rfl) ?_
    intro K' hK
    rw [if_pos (by rfl)]
    simp only [List.getElem_toArray, List.getElem_cons_succ, List.getElem_cons_zero]
    go_wp2_with fail
    have gb := (Grew.refl wa).alloc (.cells #[] 70)
    refine hK.out _ _ (.inr (fun _ => (hbx.grew gb).cell 1)) ?_
    clear hK hS
    refine wpAnyR_n1 (i := 5) rfl (by kernel_rfl) ?_
    intro K' hK
    rw [if_pos (by rfl)]
    simp only [List.getElem_toArray, List.getElem_cons_succ, List.getElem_cons_zero]
    refine wp_pushAll (.tmp 5) (.tmp 9) 52 rfl wa.heap.size 70 4 40 _ Try.underlying52 info_page rfl (by decide) _ [] ((L.take i).map pgC) rfl (OwnL.empty wa _ _ _ (Nat.le_refl _) rfl) _ i _ rfl (by rw [pgC_len, List.length_take]; omega) (pgC_row _) ((by rw [List.map_take]; exact (((HP.out.hold hB (hga.trans gb))).mono (Nat.le_trans hB (hga.trans gb).size)).take i) : ListAt _ _ 4 _ ((L.take i).map pgC)) (pgC_one _) (by simp; omega) (by simp; omega) gb.size ?_
    intro v1 w1 hown1 hgr1 hat1
    have g1 : Grew wa w1 := Grew.own gb hgr1 (own_one _ _ _) (Nat.le_refl _)
    refine hK.out _ _ (.inr (fun _ => (hbx.grew g1).cell 1)) ?_
    clear hK hgr1 hat1
    refine wpAnyR_n1 (i := 11) rfl (by kernel_rfl) ?_
    intro K' hK
    rw [if_pos (by rfl)]
    simp only [List.getElem_toArray, List.getElem_cons_succ, List.getElem_cons_zero]
    refine wp_pushAll (.tmp 10) (.tmp 15) 52 rfl wa.heap.size 70 4 40 _ Try.underlying52 info_page rfl (by decide) _ ([] ++ (L.take i).map pgC) ((L.drop (i + 1)).map pgC) rfl hown1 _ (L.length - (i + 1)) _ rfl (by rw [pgC_len, List.length_drop]) (pgC_row _) ((by rw [List.map_drop]; exact ((((HP.out.hold hB (hga.trans g1))).mono (Nat.le_trans hB (hga.trans g1).size)).drop (i + 1) rfl)) : ListAt _ _ 4 _ ((L.drop (i + 1)).map pgC)) (pgC_one _) (by simp; omega) (by simp; omega) g1.size ?_
    intro v2 w2 hown2 hgr2 hat2
    have g2 : Grew wa w2 := Grew.own g1 hgr2 hown1.row_ge (Nat.le_refl _)
    have hE : [] ++ (L.take i).map pgC ++ (L.drop (i + 1)).map pgC = (L.eraseIdx i).map pgC := by rw [List.nil_append, ← List.map_append, List.eraseIdx_eq_take_drop_succ]
    rw [hE] at hown2
    obtain ⟨A2, c2, hv2, hc2, hc29, hl2⟩ := hown2.listAt
    rw [pgC_len] at hv2 hc2
    subst hv2
    refine hK.out _ _ (.inr (fun _ => (hbx.grew g2).cell 1)) ?_
    clear hK hgr2 hat2 hE hown1 g1
    have hS := (hbx.grew g2).cell 1
    have zf := (hbx.grew g2).frozen 1
    refine wpAnyR_takeQ (i := 12) (v := ?_) (some 17) rfl rfl (by kernel_rfl) (by kernel_rfl) (by kernel_rfl) (by kernel_rfl) (fun _ _ _ h => h) (Or.inl ⟨by rfl, ?_⟩) ?_
    rotate_left
    focus (intro wS hSw; (try dsimp only at hSw); go_simp; (try with_reducible rfl); (try (rw [if_pos (by omega)]; (try go_simp); (try with_reducible rfl))))
    try simp only [Act.put, List.setIfInBounds_toArray, List.set_cons_zero, List.set_cons_succ]
    refine wpAnyR_n1 (i := 13) rfl (by kernel_rfl) ?_
    intro K' hK
    rw [if_pos (by rfl)]
    simp only [List.getElem_toArray, List.getElem_cons_succ, List.getElem_cons_zero]
    go_wp2_with fail
    refine hK.out _ _ (.inl rfl) ?_
    refine wpAnyR_done (by kernel_rfl) ?_ _
    have hbx3 := (hbx.grew g2).set_ 1 (.slice A2 (L.eraseIdx i).length c2)
    have hrx3 := (hrx.grew g2).far (p := ⟨w.heap.size, 1, none⟩) (by simp) (.slice A2 (L.eraseIdx i).length c2)
    have hg3 : Grew w (w2.setCell ⟨w.heap.size, 1, none⟩ (.slice A2 (L.eraseIdx i).length c2)) := (hga.trans g2).setCell (p := ⟨w.heap.size, 1, none⟩) (Nat.le_refl _) _
    have HO2 := Lib.hid hown2
    have hT3 : Turned (fun k => k = w.heap.size ∨ k = w.heap.size + 1) w2 (w2.setCell ⟨w.heap.size, 1, none⟩ (.slice A2 (L.eraseIdx i).length c2)) := (Turned.refl _ _).setCell (p := ⟨w.heap.size, 1, none⟩) (fun _ => .inl rfl) _
    have z0 := hbx3.cell 0
    have z1 := hbx3.cell 1
    have z2 := hbx3.cell 2
    have z3 := hbx3.cell 3
    have y0 := hrx3.cell 0
    have y1 := hrx3.cell 1
    have y2 := hrx3.cell 2
    have y3 := hrx3.cell 3
    have zf0 := hrx3.frozen 0
    have zf1 := hrx3.frozen 1
    have zf2 := hrx3.frozen 2
    have zf3 := hrx3.frozen 3
    have hz3 := hT3.size
    clear hK hS zf hl2 hown2
    go_wp2_with fail
    refine bodyPost_ret (by first | (simp [*, results, Try.results38, go_sem]; rfl) | simp [*, results, Try.results38, go_sem]) rfl ?_
    refine ⟨A2, c2, rfl, ?_, hc2, hc29, by (repeat' first | (with_reducible exact Grew.refl _) | (with_reducible assumption) | (with_reducible refine Grew.alloc ?_ _) | (with_reducible refine Grew.drew ?_) | (with_reducible refine Grew.drewN ?_ _) | (with_reducible refine Grew.setRow ?_ (by first | (simp; done) | (simp; omega) | omega) _) | (with_reducible refine Grew.setCell ?_ (by first | (simp; done) | (simp; omega) | omega) _) | ((with_reducible apply Grew.trans); rotate_left; (with_reducible assumption)) | ((with_reducible apply Grew.turn); rotate_left; (with_reducible assumption); (focus (intro i hi; first | omega | (simp at hi; omega)))) | fail)⟩
    refine (HO2.out.kept (S := fun k => k = w.heap.size ∨ k = w.heap.size + 1) ?_ (fun g hg hs => by have := (HO2.out.own_ge hg).1; omega)).rebase (by omega)
    exact (((((hT3.setCell (p := ⟨w.heap.size + 1, 0, none⟩) (fun _ => .inr rfl) _)).setCell (p := ⟨w.heap.size + 1, 1, none⟩) (fun _ => .inr rfl) _).setCell (p := ⟨w.heap.size + 1, 2, none⟩) (fun _ => .inr rfl) _).setCell (p := ⟨w.heap.size + 1, 3, none⟩) (fun _ => .inr rfl) _)
end
end Go.Proofs.Ytfmhiocigoejjaa
