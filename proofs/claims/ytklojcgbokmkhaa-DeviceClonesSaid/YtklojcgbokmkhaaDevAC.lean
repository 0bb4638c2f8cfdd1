/- Chapter 3: a new device, of the program and of the reference. -/
import Derived.Test.YtklojcgbokmkhaaDevAA
namespace Go.Proofs.Ytklojcgbokmkhaa
set_option linter.unusedVariables false
set_option linter.unusedSimpArgs false
set_option linter.unusedSectionVars false
open Go.RowKit
open Go.Maps (Keyed)
attribute [local go_sem ↓] Go.wp_at_zero Go.wp_at_succ
theorem cap_rfl (n : Nat) (h : n ≤ 9223372036854775807) : capOk n n := ⟨Nat.le_refl _, h⟩
theorem padS_empty : padS 140 ⟨#[]⟩ = blank := by kernel_rfl
set_option maxRecDepth 100000 in
set_option maxHeartbeats 2000000 in
theorem new_err (n : Int) (w : World) (h : n < 1 ∨ 1155 < n) : Calls Try.prog 11 #[.int .i64 n] w fun e w' => e = .returned (.tuple #[.pointer none, .int .i64 1]) ∧ Grew w w' := by
  by_cases h1 : n < 1
  · clear h
    go_enter Try.func11, Try.ntmps11
    go_wp2_with fail
    go_ret2
    exact ⟨rfl, Grew.refl _⟩
  · have h2 : 1155 < n := by omega
    clear h
    go_enter Try.func11, Try.ntmps11
    go_wp2_with fail
    go_ret2
    exact ⟨rfl, Grew.refl _⟩
set_option maxRecDepth 100000 in
set_option maxHeartbeats 2000000 in
theorem rnew_err (n : Int) (w : World) (h : n < 1 ∨ 1155 < n) : Calls Try.prog 12 #[.int .i64 n] w fun e w' => e = .returned (.tuple #[.agg #[.slice none 0 0, .slice none 0 0, .slice none 0 0, .slice none 0 0, .bool false, .int .i64 0, .slice none 0 0], .int .i64 1]) ∧ Grew w w' := by
  have hb := Blk.new w 32 #[.slice none 0 0, .slice none 0 0, .slice none 0 0, .slice none 0 0, .bool false, .int .i64 0, .slice none 0 0] rfl
  have hG := (Grew.refl w).alloc (.cells #[.slice none 0 0, .slice none 0 0, .slice none 0 0, .slice none 0 0, .bool false, .int .i64 0, .slice none 0 0] 32)
  have hxl := hb.lt
  by_cases h1 : n < 1
  · clear h
    go_enter Try.func12, Try.ntmps12
    go_wp2_with fail
    refine bodyPost_ret (results_cell_tmp_row rfl _ _ w.heap.size 32 #[.slice none 0 0, .slice none 0 0, .slice none 0 0, .slice none 0 0, .bool false, .int .i64 0, .slice none 0 0] _ _ rfl rfl hb Try.underlying32 rfl info_rdev) rfl ?_
    exact ⟨rfl, hG⟩
  · have h2 : 1155 < n := by omega
    clear h
    go_enter Try.func12, Try.ntmps12
    go_wp2_with fail
    refine bodyPost_ret (results_cell_tmp_row rfl _ _ w.heap.size 32 #[.slice none 0 0, .slice none 0 0, .slice none 0 0, .slice none 0 0, .bool false, .int .i64 0, .slice none 0 0] _ _ rfl rfl hb Try.underlying32 rfl info_rdev) rfl ?_
    exact ⟨rfl, hG⟩
set_option maxRecDepth 100000 in
set_option maxHeartbeats 4000000 in
theorem rnew_any (n : Nat) (w : World) (h1 : 1 ≤ n) (h2 : n ≤ 1155) : Calls Try.prog 12 #[.int .i64 (n : Int)] w fun e w' => ∃ p, e = .returned (.tuple #[.agg (rv p (newD n)), .int .i64 0]) ∧ RefM w' p (newD n) ∧ Grew w w' ∧ ∀ k, p.feet (newD n) k → w.heap.size ≤ k := by
  have HPD := Lib.hid (fun W => padded_any ⟨#[]⟩ 140 W (by omega) (by decide))
  rw [padS_empty] at HPD
  have hr := ((Blk.new w 32 #[.slice none 0 0, .slice none 0 0, .slice none 0 0, .slice none 0 0, .bool false, .int .i64 0, .slice none 0 0] rfl).alloc (.cells #[.int .i64 0, .int .i64 0, .int .i64 0, .int .i64 0, .int .i64 0] 3)).alloc (.cells #[.slice none 0 0, .slice none 0 0, .slice none 0 0, .slice (some ⟨w.heap.size + 1, 0, none⟩) 5 5, .bool false, .int .i64 (-1), .slice none 0 0] 32)
  have hf := (Blk.new (w.alloc (.cells #[.slice none 0 0, .slice none 0 0, .slice none 0 0, .slice none 0 0, .bool false, .int .i64 0, .slice none 0 0] 32)) 3 #[.int .i64 0, .int .i64 0, .int .i64 0, .int .i64 0, .int .i64 0] (n := w.heap.size + 1) (by simp)).alloc (.cells #[.slice none 0 0, .slice none 0 0, .slice none 0 0, .slice (some ⟨w.heap.size + 1, 0, none⟩) 5 5, .bool false, .int .i64 (-1), .slice none 0 0] 32)
  have hb := Blk.new ((w.alloc (.cells #[.slice none 0 0, .slice none 0 0, .slice none 0 0, .slice none 0 0, .bool false, .int .i64 0, .slice none 0 0] 32)).alloc (.cells #[.int .i64 0, .int .i64 0, .int .i64 0, .int .i64 0, .int .i64 0] 3)) 32 #[.slice none 0 0, .slice none 0 0, .slice none 0 0, .slice (some ⟨w.heap.size + 1, 0, none⟩) 5 5, .bool false, .int .i64 (-1), .slice none 0 0] (n := w.heap.size + 2) (by simp)
  have hG0 := (((Grew.refl w).alloc (.cells #[.slice none 0 0, .slice none 0 0, .slice none 0 0, .slice none 0 0, .bool false, .int .i64 0, .slice none 0 0] 32)).alloc (.cells #[.int .i64 0, .int .i64 0, .int .i64 0, .int .i64 0, .int .i64 0] 3)).alloc (.cells #[.slice none 0 0, .slice none 0 0, .slice none 0 0, .slice (some ⟨w.heap.size + 1, 0, none⟩) 5 5, .bool false, .int .i64 (-1), .slice none 0 0] 32)
  go_enter Try.func12, Try.ntmps12
  go_upto_region 4 with fail
  obtain ⟨w1, hw1⟩ : ∃ w1, w1 = ((w.alloc (.cells #[.slice none 0 0, .slice none 0 0, .slice none 0 0, .slice none 0 0, .bool false, .int .i64 0, .slice none 0 0] 32)).alloc (.cells #[.int .i64 0, .int .i64 0, .int .i64 0, .int .i64 0, .int .i64 0] 3)).alloc (.cells #[.slice none 0 0, .slice none 0 0, .slice none 0 0, .slice (some ⟨w.heap.size + 1, 0, none⟩) 5 5, .bool false, .int .i64 (-1), .slice none 0 0] 32) := ⟨_, rfl⟩
  rw [← hw1] at hr hf hb hG0 ⊢
  clear hw1
  have HR := Lib.hid hr
  have HF := Lib.hid hf
  have HB := Lib.hid hb
  have HG0 := Lib.hid hG0
  clear hr hf hb hG0
  go_wp2_with fail
  go_loopg [5] n (fun gk iv wr => ∃ (j : Nat) (s0 s1 : Value), j ≤ n ∧ gk = n - j ∧ iv = .int .i64 (j : Int) ∧ OwnL wr (w.heap.size + 3) 9 1 s0 ((List.replicate j blank).map strC) ∧ OwnL wr (w.heap.size + 3) 27 1 s1 ((List.replicate j (Value.slice none 0 0)).map fun v => [v]) ∧
    Blk wr (w.heap.size + 2) 32 #[s0, s1, .slice none 0 0, .slice (some ⟨w.heap.size + 1, 0, none⟩) 5 5, .bool false, .int .i64 (-1), .slice none 0 0] ∧ Blk wr w.heap.size 32 #[.slice none 0 0, .slice none 0 0, .slice none 0 0, .slice none 0 0, .bool false, .int .i64 0, .slice none 0 0] ∧ Blk wr (w.heap.size + 1) 3 #[.int .i64 0, .int .i64 0, .int .i64 0, .int .i64 0, .int .i64 0] ∧ Grew w wr ∧ (∀ g, s0.ownBlock = some g → s1.ownBlock ≠ some g))
  case atStart => exact ⟨0, .slice none 0 0, .slice none 0 0, Nat.zero_le _, rfl, rfl, OwnL.nil _ _ _ _, OwnL.nil _ _ _ _, HB.out, HR.out, HF.out, HG0.out, fun g h => by cases h⟩
  case round =>
    obtain ⟨j, s0, s1, hj, hgk, rfl, ho0, ho1, hb, hr, hf, hg, hne⟩ := hrel
    have HGK := Lib.hid hgk
    have HO0 := Lib.hid ho0
    have HO1 := Lib.hid ho1
    have HNE := Lib.hid hne
    have HB := Lib.hid hb
    have HR := Lib.hid hr
    have HF := Lib.hid hf
    have HG := Lib.hid hg
    have hzg := hg.size
    have hbl := hb.lt
    clear hgk ho0 ho1 hne hr hf hg
    by_cases hlt : j < n
    · have x0 := hb.cell 0
      have hrl : ((List.replicate j blank).map strC).length = j := by simp
      have hrl1 : ((List.replicate j (Value.slice none 0 0)).map fun v => [v]).length = j := by simp
      have HRL := Lib.hid hrl
      have HRL1 := Lib.hid hrl1
      clear hb hrl hrl1
      go_upto_region 7 with fail
      refine wp_region_R [4, 6] (fun w' : World => w'.cell? ⟨w.heap.size + 2, 0, none⟩ = some s0) (by kernel_rfl) ?_
      have hS := (show (fun w' : World => w'.cell? ⟨w.heap.size + 2, 0, none⟩ = some s0) wr.drew from x0)
      refine wpAnyR_takeQ (i := 0) (v := ?_) (some 20) rfl rfl (by kernel_rfl) (by kernel_rfl) (by kernel_rfl) (by kernel_rfl) (fun _ _ _ h => h) (Or.inl ⟨by rfl, ?_⟩) ?_
      rotate_left
      focus (intro wS hSw; (try dsimp only at hSw); go_simp; (try with_reducible rfl); (try (first | (rw [if_pos (by omega)]; (try go_simp); (try with_reducible rfl)) | (rw [if_neg (by omega)]; (try go_simp); (try with_reducible rfl)))))
      try simp only [Act.put, List.setIfInBounds_toArray, List.set_cons_zero, List.set_cons_succ]
      refine wpAnyR_take (i := 1) (v := ?_) [4, 5, 6] (some 21) rfl rfl (by kernel_rfl) (by kernel_rfl) (by kernel_rfl) (by kernel_rfl) (by kernel_rfl) (by kernel_rfl) (by kernel_rfl) (fun _ _ _ h => h) (Or.inl ⟨by rfl, ?_⟩) hS ?_
      rotate_left
      focus (intro wS hSw; (try dsimp only at hSw); go_simp; (try with_reducible rfl); (try (first | (rw [if_pos (by omega)]; (try go_simp); (try with_reducible rfl)) | (rw [if_neg (by omega)]; (try go_simp); (try with_reducible rfl)))))
      try simp only [Act.put, List.setIfInBounds_toArray, List.set_cons_zero, List.set_cons_succ]
      refine wpAnyR_n1 (i := 2) rfl (by kernel_rfl) ?_
      intro K' hK
      rw [if_pos (by rfl)]
      simp only [List.getElem_toArray, List.getElem_cons_succ, List.getElem_cons_zero]
      go_wp2_with fail
      refine (HPD.out wr.drew).mono ?_
      rintro e w2 ⟨rfl, rfl⟩
      go_wp2_with fail
      refine hK.out _ _ (.inr (fun h => h)) ?_
      clear hK
      refine wpAnyR_n1 (i := 3) rfl (by kernel_rfl) ?_
      intro K' hK
      rw [if_pos (by rfl)]
      simp only [List.getElem_toArray, List.getElem_cons_succ, List.getElem_cons_zero]
      go_wp2_with fail
      have g3 := (Grew.refl wr).alloc (.cells #[.string blank] 9)
      have hS3 : (fun w' : World => w'.cell? ⟨w.heap.size + 2, 0, none⟩ = some s0) (wr.alloc (.cells #[.string blank] 9)).drew := (g3.cellEq _ _ hbl).trans x0
      refine hK.out _ _ (.inr (fun _ => hS3)) ?_
      clear hK hS
      refine wpAnyR_n1 (i := 4) rfl (by kernel_rfl) ?_
      intro K' hK
      rw [if_pos (by rfl)]
      simp only [List.getElem_toArray, List.getElem_cons_succ, List.getElem_cons_zero]
      refine wp_push (.tmp 21) (.tmp 23) 27 rfl (w.heap.size + 3) 9 1 16 _ Try.underlying27 info_str rfl (by decide) _ s0 ((List.replicate j blank).map strC) (strC blank) rfl rfl (HO0.out.alloc _).drew _ rfl (Blk.new wr _ _ rfl).drew rfl (by rw [HRL.out]; omega) (by rw [HRL.out]; omega) (by simp; omega) j HRL.out ?_
      intro g4 c4 w4 hown4 hgr4 hat4 hlt4
      refine hK.out _ _ (.inl rfl) ?_
      clear hK
      simp only [Act.put, List.setIfInBounds_toArray, List.set_cons_zero, List.set_cons_succ]
      have hrow0 : ∀ k, s0.ownBlock = some k → w.heap.size + 3 ≤ k := HO0.out.row_ge
      have hb4 := ((HB.out.alloc (.cells #[.string blank] 9)).drew).own hgr4 (fun e => by have := hrow0 _ e; omega)
      have hr4 := ((HR.out.alloc (.cells #[.string blank] 9)).drew).own hgr4 (fun e => by have := hrow0 _ e; omega)
      have hf4 := ((HF.out.alloc (.cells #[.string blank] 9)).drew).own hgr4 (fun e => by have := hrow0 _ e; omega)
      have ho4 := ((HO1.out.alloc (.cells #[.string blank] 9)).drew).own hgr4 (fun g hg e => HNE.out g e hg)
      have hg4 := Grew.own ((HG.out.alloc (.cells #[.string blank] 9)).drew) hgr4 hrow0 (by omega)
      have hne4 : s1.ownBlock ≠ some g4 := fun e => by
        rcases hat4 with h9 | h9
        · exact HNE.out g4 h9 e
        · have := (HO1.out.own_ge e).2
          have hz9 : (wr.alloc (.cells #[.string blank] 9)).drew.heap.size = wr.heap.size + 1 := by simp
          omega
      have hge4 : w.heap.size + 3 ≤ g4 := (hown4.own_ge (g := g4) rfl).1
      have hown4' : OwnL w4 (w.heap.size + 3) 9 1 (.slice (some ⟨g4, 0, none⟩) (j + 1) c4) ((List.replicate (j + 1) blank).map strC) := by
        have e9 : (List.replicate j blank).map strC ++ [strC blank] = (List.replicate (j + 1) blank).map strC := by rw [List.replicate_succ', List.map_append]; rfl
        rw [← e9]; exact hown4
      have HO4 := Lib.hid hown4'
      have x0 := hb4.cell 0
      have f0 := hb4.frozen 0
      have hxl4 := hb4.lt
      clear hgr4 hat4 hown4 hown4' hS3 hrow0
      refine wpAnyR_takeQ (i := 5) (v := ?_) (some 25) rfl rfl (by kernel_rfl) (by kernel_rfl) (by kernel_rfl) (by kernel_rfl) (fun _ _ _ h => h) (Or.inl ⟨by rfl, ?_⟩) ?_
      rotate_left
      focus (intro wS hSw; (try dsimp only at hSw); go_simp; (try with_reducible rfl); (try (first | (rw [if_pos (by omega)]; (try go_simp); (try with_reducible rfl)) | (rw [if_neg (by omega)]; (try go_simp); (try with_reducible rfl)))))
      try simp only [Act.put, List.setIfInBounds_toArray, List.set_cons_zero, List.set_cons_succ]
      refine wpAnyR_n1 (i := 6) rfl (by kernel_rfl) ?_
      intro K' hK
      rw [if_pos (by rfl)]
      simp only [List.getElem_toArray, List.getElem_cons_succ, List.getElem_cons_zero]
      go_wp2_with fail
      refine hK.out _ _ (.inl rfl) ?_
      clear hK x0 f0
      refine wpAnyR_done (by kernel_rfl) ?_ _
      have hb5 : Blk (w4.setCell ⟨w.heap.size + 2, 0, none⟩ (.slice (some ⟨g4, 0, none⟩) (j + 1) c4)) (w.heap.size + 2) 32 #[.slice (some ⟨g4, 0, none⟩) (j + 1) c4, s1, .slice none 0 0, .slice (some ⟨w.heap.size + 1, 0, none⟩) 5 5, .bool false, .int .i64 (-1), .slice none 0 0] := (hb4.set_ 0 _).conv rfl
      have hr5 := hr4.far (p := ⟨w.heap.size + 2, 0, none⟩) (by simp) (.slice (some ⟨g4, 0, none⟩) (j + 1) c4)
      have hf5 := hf4.far (p := ⟨w.heap.size + 2, 0, none⟩) (by simp) (.slice (some ⟨g4, 0, none⟩) (j + 1) c4)
      have ho5 := ho4.far (p := ⟨w.heap.size + 2, 0, none⟩) (fun e => by have h9 : w.heap.size + 3 ≤ w.heap.size + 2 := (ho4.own_ge e).1; omega) (.slice (some ⟨g4, 0, none⟩) (j + 1) c4)
      have hO5 := HO4.out.far (p := ⟨w.heap.size + 2, 0, none⟩) (own_ne _ _ (by show g4 ≠ w.heap.size + 2; omega)) (.slice (some ⟨g4, 0, none⟩) (j + 1) c4)
      have hg5 := hg4.setCell (p := ⟨w.heap.size + 2, 0, none⟩) (by simp) (.slice (some ⟨g4, 0, none⟩) (j + 1) c4)
      obtain ⟨w5, hw5⟩ : ∃ w5, w5 = w4.setCell ⟨w.heap.size + 2, 0, none⟩ (.slice (some ⟨g4, 0, none⟩) (j + 1) c4) := ⟨_, rfl⟩
      rw [← hw5] at hb5 hr5 hf5 ho5 hO5 hg5 ⊢
      clear hw5 hb4 hr4 hf4 ho4 hg4 hxl4
      have x1 := hb5.cell 1
      have f1 := hb5.frozen 1
      have hxl5 := hb5.lt
      have HB5 := Lib.hid hb5
      have HR5 := Lib.hid hr5
      have HF5 := Lib.hid hf5
      have HO51 := Lib.hid ho5
      have HO50 := Lib.hid hO5
      have HG5 := Lib.hid hg5
      have hz5 : w.heap.size + 3 ≤ w5.heap.size := by omega
      clear hb5 hr5 hf5 ho5 hO5 hg5
      go_wp2_with (at_builtin; (refine wpList_push2 rfl _ _ 28 rfl (w.heap.size + 3) 27 1 24 _ Try.underlying28 info_strs rfl (by decide) _ s1 ((List.replicate j (Value.slice none 0 0)).map fun v => [v]) [.slice none 0 0] rfl rfl (HO51.out.alloc _) w5.heap.size (by rfl) (Blk.new _ _ _ rfl) rfl (by rw [HRL1.out]; omega) (by rw [HRL1.out]; omega) (by simp; omega) j HRL1.out ?_); intro g6 c6 w6 hown6 hgr6 hat6 hlt6; have x1 := ((HB5.out.alloc (.cells #[.slice none 0 0] 27)).own hgr6 (fun e => by have := HO51.out.row_ge _ e; omega)).cell 1; have f1 := ((HB5.out.alloc (.cells #[.slice none 0 0] 27)).own hgr6 (fun e => by have := HO51.out.row_ge _ e; omega)).frozen 1; have hxl6 := ((HB5.out.alloc (.cells #[.slice none 0 0] 27)).own hgr6 (fun e => by have := HO51.out.row_ge _ e; omega)).lt)
      have hrow1 : ∀ k, s1.ownBlock = some k → w.heap.size + 3 ≤ k := HO51.out.row_ge
      have hb6 := (HB5.out.alloc (.cells #[.slice none 0 0] 27)).own hgr6 (fun e => by have := hrow1 _ e; omega)
      have hr6 := (HR5.out.alloc (.cells #[.slice none 0 0] 27)).own hgr6 (fun e => by have := hrow1 _ e; omega)
      have hf6 := (HF5.out.alloc (.cells #[.slice none 0 0] 27)).own hgr6 (fun e => by have := hrow1 _ e; omega)
      have ho6 := (HO50.out.alloc (.cells #[.slice none 0 0] 27)).own hgr6 (fun g hg e => hne4 (by injection hg with hg; have hg' : g4 = g := hg; rw [hg']; exact e))
      have hg6 := Grew.own (HG5.out.alloc (.cells #[.slice none 0 0] 27)) hgr6 hrow1 (by omega)
      have hge6 : w.heap.size + 3 ≤ g6 := (hown6.own_ge (g := g6) rfl).1
      have hne6 : g4 ≠ g6 := fun e => by
        rcases hat6 with h9 | h9
        · exact hne4 (by rw [e]; exact h9)
        · have := (HO50.out.own_ge (g := g4) rfl).2
          have hz9 : (w5.alloc (.cells #[.slice none 0 0] 27)).heap.size = w5.heap.size + 1 := by simp
          omega
      have e9 : ((List.replicate j (Value.slice none 0 0)).map fun v => [v]) ++ [[Value.slice none 0 0]] = (List.replicate (j + 1) (Value.slice none 0 0)).map fun v => [v] := by rw [List.replicate_succ', List.map_append]; rfl
      rw [e9] at hown6
      have key : ∀ W, W = w6.setCell ⟨w.heap.size + 2, 1, none⟩ (.slice (some ⟨g6, 0, none⟩) (j + 1) c6) → OwnL W (w.heap.size + 3) 9 1 (.slice (some ⟨g4, 0, none⟩) (j + 1) c4) ((List.replicate (j + 1) blank).map strC) ∧ OwnL W (w.heap.size + 3) 27 1 (.slice (some ⟨g6, 0, none⟩) (j + 1) c6) ((List.replicate (j + 1) (Value.slice none 0 0)).map fun v => [v]) ∧
          Blk W (w.heap.size + 2) 32 #[.slice (some ⟨g4, 0, none⟩) (j + 1) c4, .slice (some ⟨g6, 0, none⟩) (j + 1) c6, .slice none 0 0, .slice (some ⟨w.heap.size + 1, 0, none⟩) 5 5, .bool false, .int .i64 (-1), .slice none 0 0] ∧ Blk W w.heap.size 32 #[.slice none 0 0, .slice none 0 0, .slice none 0 0, .slice none 0 0, .bool false, .int .i64 0, .slice none 0 0] ∧ Blk W (w.heap.size + 1) 3 #[.int .i64 0, .int .i64 0, .int .i64 0, .int .i64 0, .int .i64 0] ∧ Grew w W := by
        rintro W rfl
        exact ⟨ho6.far (p := ⟨w.heap.size + 2, 1, none⟩) (own_ne _ _ (by show g4 ≠ w.heap.size + 2; omega)) _, hown6.far (p := ⟨w.heap.size + 2, 1, none⟩) (own_ne _ _ (by show g6 ≠ w.heap.size + 2; omega)) _, (hb6.set_ 1 _).conv rfl, hr6.far (p := ⟨w.heap.size + 2, 1, none⟩) (by simp) _, hf6.far (p := ⟨w.heap.size + 2, 1, none⟩) (by simp) _, hg6.setCell (p := ⟨w.heap.size + 2, 1, none⟩) (by simp) _⟩
      obtain ⟨q1, q2, q3, q4, q5, q6⟩ := key _ rfl
      have Q1 := Lib.hid q1
      have Q2 := Lib.hid q2
      have Q3 := Lib.hid q3
      have Q4 := Lib.hid q4
      have Q5 := Lib.hid q5
      have Q6 := Lib.hid q6
      clear q1 q2 q3 q4 q5 q6 key
      go_roundg (n - (j + 1))
      case measure => rw [HGK.out]; omega
      case rel => exact ⟨j + 1, .slice (some ⟨g4, 0, none⟩) (j + 1) c4, .slice (some ⟨g6, 0, none⟩) (j + 1) c6, by omega, by omega, by go_num, Q1.out, Q2.out, Q3.out, Q4.out, Q5.out, Q6.out, fun g hg e => hne6 ((Option.some.inj hg).trans (Option.some.inj e).symm)⟩
    · obtain rfl : j = n := by omega
      obtain ⟨A0, c0, hv0, hc0, hc09, hl0⟩ := HO0.out.listAt
      obtain ⟨A1, c1, hv1, hc1, hc19, hl1⟩ := HO1.out.listAt
      rw [strC_len, List.length_replicate] at hv0 hc0
      rw [val_len, List.length_replicate] at hv1 hc1
      subst hv0; subst hv1
      have hb9 : Blk wr (w.heap.size + 2) 32 (rv ⟨A0, c0, A1, c1, List.replicate j (.slice none 0 0), none, 0, some ⟨w.heap.size + 1, 0, none⟩, 5, -1, none, 0, []⟩ (newD j)) := hb.conv (by unfold rv newD; simp only [List.length_replicate, List.length_nil])
      have hr9 := HR.out
      have HL0 := Lib.hid hl0
      have HL1 := Lib.hid hl1
      clear hb hl0 hl1
      go_wp2_with (first | (refine wpList_load_blk rfl 32 _ rfl (w.heap.size + 2) rfl 32 (rv ⟨A0, c0, A1, c1, List.replicate j (.slice none 0 0), none, 0, some ⟨w.heap.size + 1, 0, none⟩, 5, -1, none, 0, []⟩ (newD j)) _ hb9 Try.underlying32 rfl info_rdev ?_) | (refine wpList_store_blk rfl 32 _ _ rfl w.heap.size (rv ⟨A0, c0, A1, c1, List.replicate j (.slice none 0 0), none, 0, some ⟨w.heap.size + 1, 0, none⟩, 5, -1, none, 0, []⟩ (newD j)) rfl rfl 32 _ hr9 rfl info_rdev (rv_one _ _) ?_))
      refine bodyPost_ret (results_cell_tmp_row rfl _ _ w.heap.size 32 (rv ⟨A0, c0, A1, c1, List.replicate j (.slice none 0 0), none, 0, some ⟨w.heap.size + 1, 0, none⟩, 5, -1, none, 0, []⟩ (newD j)) _ _ rfl rfl (hr9.setRow _) Try.underlying32 rfl info_rdev) rfl ?_
      have ho0 := HO0.out.farRow (g' := w.heap.size) (fun e => by have := (HO0.out.own_ge e).1; omega) (rv ⟨A0, c0, A1, c1, List.replicate j (.slice none 0 0), none, 0, some ⟨w.heap.size + 1, 0, none⟩, 5, -1, none, 0, []⟩ (newD j))
      have ho1 := HO1.out.farRow (g' := w.heap.size) (fun e => by have := (HO1.out.own_ge e).1; omega) (rv ⟨A0, c0, A1, c1, List.replicate j (.slice none 0 0), none, 0, some ⟨w.heap.size + 1, 0, none⟩, 5, -1, none, 0, []⟩ (newD j))
      have hf9 := HF.out.farRow (g' := w.heap.size) (by omega) (rv ⟨A0, c0, A1, c1, List.replicate j (.slice none 0 0), none, 0, some ⟨w.heap.size + 1, 0, none⟩, 5, -1, none, 0, []⟩ (newD j))
      have hg9 := HG.out.setRow (g := w.heap.size) (Nat.le_refl _) (rv ⟨A0, c0, A1, c1, List.replicate j (.slice none 0 0), none, 0, some ⟨w.heap.size + 1, 0, none⟩, 5, -1, none, 0, []⟩ (newD j))
      refine ⟨⟨A0, c0, A1, c1, List.replicate j (.slice none 0 0), none, 0, some ⟨w.heap.size + 1, 0, none⟩, 5, -1, none, 0, []⟩, rfl, ⟨ho0.listA, ho1.listA, by simp [newD], fun i v l hv hl => ?_, ListAt.none _, fun _ => ⟨w.heap.size + 1, 0, rfl, hf9.lt, fun jj cs hjj i v hi => ?_⟩, ListAt.none _, .inl ⟨rfl, rfl⟩, (by show (-1 : Int) ≤ _; omega), (fun n hn => by cases hn), ?_, ?_, cap_rfl 0 (by decide), cap_rfl 5 (by decide), cap_rfl 0 (by decide), newD_ok j h1 h2⟩, hg9, fun k hk => ?_⟩
      · have hv' := (List.mem_replicate.1 (List.mem_of_getElem? hv)).2
        have hl' := (List.mem_replicate.1 (List.mem_of_getElem? hl)).2
        subst hv'; subst hl'
        exact ⟨none, 0, rfl, ⟨Nat.le_refl _, by decide⟩, ListAt.none _⟩
      · have hz : ∀ q, q < 5 → (fenL (newD j)).map intC = List.replicate 5 [Value.int .i64 0] := fun _ _ => rfl
        rw [hz 0 (by omega)] at hjj
        have hj5 := (List.getElem?_eq_some_iff.1 hjj).1
        rw [List.length_replicate] at hj5
        have hcs := (List.mem_replicate.1 (List.mem_of_getElem? hjj)).2
        subst hcs
        have hi0 : i = 0 := by
          have := (List.getElem?_eq_some_iff.1 hi).1
          simp at this; omega
        subst hi0
        simp only [List.getElem?_cons_zero, Option.some.injEq] at hi
        subst hi
        have hc := hf9.cell jj
        rw [Nat.zero_add, Nat.mul_one]
        show World.cell? _ ⟨w.heap.size + 1, jj, none⟩ = _
        rw [hc]
        match jj, hj5 with
        | 0, _ => rfl
        | 1, _ => rfl
        | 2, _ => rfl
        | 3, _ => rfl
        | 4, _ => rfl
      · show capOk (List.replicate j blank).length c0
        rw [List.length_replicate]; exact ⟨hc0, hc09⟩
      · show capOk (List.replicate j blank).length c1
        rw [List.length_replicate]; exact ⟨hc1, hc19⟩
      · rcases hk with hk | hk | hk | hk | hk | ⟨i, A, m, c, hi, hk⟩
        · obtain ⟨_, off, e⟩ := hk
          have e' : A0 = some ⟨k, off, none⟩ := e
          have := (HO0.out.own_ge (g := k) (by rw [e']; rfl)).1
          omega
        · obtain ⟨_, off, e⟩ := hk
          have e' : A1 = some ⟨k, off, none⟩ := e
          have := (HO1.out.own_ge (g := k) (by rw [e']; rfl)).1
          omega
        · exact absurd hk.1 (Nat.lt_irrefl 0)
        · have := lies_own hk rfl
          omega
        · exact absurd hk.1 (Nat.lt_irrefl 0)
        · have h9 := (List.mem_replicate.1 (List.mem_of_getElem? hi)).2
          injection h9 with h9 h10 _
          have := hk.1
          omega
end Go.Proofs.Ytklojcgbokmkhaa
