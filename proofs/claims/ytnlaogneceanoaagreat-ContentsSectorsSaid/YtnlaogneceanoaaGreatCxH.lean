/- Chapter 8: Valid. Chapter 8: Free, Find, New. Chapter 8: pieces of 128 bytes, plain. Chapter 8: the reference's cut and track; Texts. -/
import Derived.Deep.QuietTactic
import Derived.BigQuiet
import Derived.Deep.DeepCutAuto
import Derived.DeepKeys4
import Derived.Laws.EntriesVeiled
import Derived.Deep.RegionHeld3
import Derived.Laws.MakeOwn
import Derived.Test.YtnlaogneceanoaaGreatCxB
import Derived.Test.YtnlaogneceanoaaGreatCxF
import Derived.Test.YtnlaogneceanoaaGreatCxG
namespace Go.Proofs.YtnlaogneceanoaaGreat
set_option linter.unusedVariables false
set_option linter.unusedSimpArgs false
set_option linter.unusedSectionVars false
open Go.RowKit
open Go.Maps (Keyed)
attribute [local go_sem ↓] Go.wp_at_zero Go.wp_at_succ
def kindV (p : Int × Bool) : Value := .agg #[.int .i64 p.1, .bool p.2]
theorem kind_inj (a b : Int × Bool) (h : kindV a = kindV b) : a = b := by
  unfold kindV at h
  injection h with h
  injection h with h
  injection h with h1 h2
  injection h2 with h2 _
  injection h1 with _ h1
  injection h2 with h2
  exact Prod.ext h1 h2
set_option maxRecDepth 100000 in
theorem types_pos : ∃ m, Tryz.prog.types.size = m + 1 := ⟨Tryz.prog.types.size - 1, by kernel_rfl⟩
set_option maxRecDepth 100000 in
theorem kind_keyed : Keyed Tryz.prog 73 := Keyed.of_law (deep_law_laid (by kernel_rfl) (m := 2) (by omega) (of_decide_eq_true (by kernel_rfl)) (by kernel_rfl) (by kernel_rfl))
theorem kind_keyType : Tryz.prog.keyType 73 = true := by kernel_rfl
theorem kind_cells : Tryz.prog.cellsOf 73 = 2 := by kernel_rfl
theorem int_cells : Tryz.prog.cellsOf 3 = 1 := by kernel_rfl
theorem bool_cells : Tryz.prog.cellsOf 4 = 1 := by kernel_rfl
theorem kind_key (p : Int × Bool) (h1 : -9223372036854775808 ≤ p.1) (h2 : p.1 ≤ 9223372036854775807) : ∃ x, keyOf Tryz.prog 73 (kindV p) = some x := by
  obtain ⟨a, b⟩ := p
  have wa : (Lit.int .i64 a).wf = true := WalkArith.wf_i64 ⟨h1, h2⟩
  have wb : (Lit.bool b).wf = true := rfl
  obtain ⟨m, hm⟩ := types_pos
  refine ⟨.string (keyBytes [.int .i64 a, .bool b]), ?_⟩
  unfold keyOf kindV
  simp only [Tryz.underlying73]
  rw [if_pos (by simp [kind_keyType, Value.formed, Tryz.underlying73, kind_cells]), hm]
  unfold Program.keyLits
  simp only [Tryz.underlying73, Value.cells]
  rw [if_pos (by rw [kind_cells]; exact ⟨rfl, by kernel_rfl⟩)]
  simp [Program.keyLits, Tryz.underlying3, Tryz.underlying4, int_cells, bool_cells, wa, wb]
theorem zero_bool (w : World) : (zeroValue 4).run Tryz.prog w = .ok (.bool false) w := by kernel_rfl
/-- The kinds that have been seen. -/
def seenF (ks : List (Int × Bool)) (a : Int × Bool) : Option Value := if a ∈ ks then some (.bool true) else none
theorem seenF_snoc (ks : List (Int × Bool)) (a x : Int × Bool) : upd (seenF ks) a (some (.bool true)) x = seenF (ks ++ [a]) x := by
  unfold seenF
  by_cases h : x = a
  · subst h; rw [upd_same]; simp
  · rw [upd_other _ _ h]; simp [h]
theorem own_map_ne2 {w : World} {base e sz m : Nat} {v : Value} {rows : List (List Value)} {F : Int × Bool → Option Value} (h : OwnL w base e sz v rows) (hm : MapIs Tryz.prog 73 kindV w m F) : v.ownBlock ≠ some m := by
  rcases h.2.2 with ⟨rfl, _⟩ | ⟨g', cap, cur, rfl, _, hh, _⟩
  · simp [Value.ownBlock]
  · intro he
    have : g' = m := by simpa [Value.ownBlock] using he
    subst this
    obtain ⟨es, clock, l, hb, _⟩ := hm
    rw [hh] at hb
    cases hb
theorem blk_map_ne2 {w : World} {g m : Nat} {t : TypeId} {cs : Array Value} {F : Int × Bool → Option Value} (h : Blk w g t cs) (hm : MapIs Tryz.prog 73 kindV w m F) : ¬ g = m := by
  rintro rfl
  obtain ⟨es, clock, l, hb, _⟩ := hm
  unfold Blk at h
  rw [h] at hb
  cases hb
theorem map_one_len (l : List (Int × Int)) : ∀ r ∈ l.map runC, r.length = 2 := by
  intro r hr; obtain ⟨x, _, rfl⟩ := List.mem_map.1 hr; rfl
theorem map_one_one (l : List (Int × Int)) : ∀ r ∈ l.map runC, r.all (·.oneCell') = true := by
  intro r hr; obtain ⟨x, _, rfl⟩ := List.mem_map.1 hr; rfl
set_option maxRecDepth 100000 in
set_option maxHeartbeats 8000000 in
theorem valid_tab (A : Option Addr) (c : Nat) (xs : List LabE) (T : Tab) (w : World) (h : TabAt w A c xs T) (hs : SmallT T) (n : Nat) (hn : n = T.labels.length) :
    Calls Tryz.prog 10 #[.agg #[.string T.name, .int .i64 T.tracks, .slice A n c]] w fun e w' => e = .returned (.bool (validT T)) ∧ Grew w w' := by
  subst hn
  have hnm := h.name
  have hlen := hs.len
  have HG0 := Lib.hid ((Grew.refl w).alloc (.cells #[.string T.name, .int .i64 T.tracks, .slice A T.labels.length c] 24))
  have HB0 := Lib.hid (Blk.new w 24 #[.string T.name, .int .i64 T.tracks, .slice A T.labels.length c] rfl)
  have HTB := Lib.hid h
  have HS := Lib.hid hs
  clear h hs
  by_cases hz : okT T.tracks = true
  rotate_left
  · have hz' : okT T.tracks = false := by simpa using hz
    have HE := Lib.hid (validT_false_head T (by unfold headB; rw [hz']; rfl))
    have HT0 := Lib.hid (show ttS T.tracks = 0 from by unfold ttS; rw [if_neg hz])
    clear hz hz'
    go_enter Tryz.func10, Tryz.ntmps10
    go_wp2_with fail
    refine wp_region_R [] (fun w' : World => w'.cell? ⟨w.heap.size, 0, none⟩ = some (.string T.name) ∧ w'.cell? ⟨w.heap.size, 1, none⟩ = some (.int .i64 T.tracks) ∧ w'.cell? ⟨w.heap.size, 2, none⟩ = some (.slice A T.labels.length c)) (by kernel_rfl) ?_
    have hS : (fun w' : World => w'.cell? ⟨w.heap.size, 0, none⟩ = some (.string T.name) ∧ w'.cell? ⟨w.heap.size, 1, none⟩ = some (.int .i64 T.tracks) ∧ w'.cell? ⟨w.heap.size, 2, none⟩ = some (.slice A T.labels.length c)) (w.alloc (.cells #[.string T.name, .int .i64 T.tracks, .slice A T.labels.length c] 24)).drew := ⟨HB0.out.drew.cell 0, HB0.out.drew.cell 1, HB0.out.drew.cell 2⟩
    refine wpAnyR_takeQ (i := 0) (v := ?_) (some 8) rfl rfl (by kernel_rfl) (by kernel_rfl) (by kernel_rfl) (by kernel_rfl) (fun _ _ _ h => h) (Or.inl ⟨by rfl, ?_⟩) ?_
    rotate_left
    focus (intro wS hSw; (try dsimp only at hSw); go_simp; (try with_reducible rfl); (try (first | (rw [if_pos (by omega)]; (try go_simp); (try with_reducible rfl)) | (rw [if_neg (by omega)]; (try go_simp); (try with_reducible rfl)))))
    try simp only [Act.put, zA, zB, zC]
    refine wpAnyR_take (i := 1) (v := ?_) [2, 3, 4, 5, 6, 7, 8, 9, 10, 11, 12, 13, 14, 15, 16, 17, 18] (some 9) rfl rfl (by kernel_rfl) (by kernel_rfl) (by kernel_rfl) (by kernel_rfl) (by kernel_rfl) (by kernel_rfl) (by kernel_rfl) (fun _ _ _ h => h) (Or.inl ⟨by rfl, ?_⟩) hS ?_
    rotate_left
    focus (intro wS hSw; (try dsimp only at hSw); go_simp; (try with_reducible rfl); (try (first | (rw [if_pos (by omega)]; (try go_simp); (try with_reducible rfl)) | (rw [if_neg (by omega)]; (try go_simp); (try with_reducible rfl)))))
    try simp only [Act.put, zA, zB, zC]
    refine wpAnyR_n1 (i := 2) rfl (by kernel_rfl) ?_
    intro K' hK
    rw [if_pos (by rfl)]
    simp only [List.getElem_toArray, List.getElem_cons_succ, List.getElem_cons_zero]
    go_wp2_with fail
    refine (table_any _ _).mono ?_
    rintro e w1 ⟨rfl, rfl⟩
    rw [HT0.out]
    go_wp2_with fail
    refine hK.out _ _ (.inr (fun h => h)) ?_
    clear hK
    refine wpAnyR_takeQ (i := 3) (v := ?_) (some 11) rfl rfl (by kernel_rfl) (by kernel_rfl) (by kernel_rfl) (by kernel_rfl) (fun _ _ _ h => h) (Or.inl ⟨by rfl, ?_⟩) ?_
    rotate_left
    focus (intro wS hSw; (try dsimp only at hSw); go_simp; (try with_reducible rfl); (try (first | (rw [if_pos (by omega)]; (try go_simp); (try with_reducible rfl)) | (rw [if_neg (by omega)]; (try go_simp); (try with_reducible rfl)))))
    try simp only [Act.put, zA, zB, zC]
    refine wpAnyR_takeQ (i := 4) (v := ?_) (some 12) rfl rfl (by kernel_rfl) (by kernel_rfl) (by kernel_rfl) (by kernel_rfl) (fun _ _ _ h => h) (Or.inl ⟨by rfl, ?_⟩) ?_
    rotate_left
    focus (intro wS hSw; (try dsimp only at hSw); go_simp; (try with_reducible rfl); (try (first | (rw [if_pos (by omega)]; (try go_simp); (try with_reducible rfl)) | (rw [if_neg (by omega)]; (try go_simp); (try with_reducible rfl)))))
    try simp only [Act.put, zA, zB, zC]
    refine wpAnyR_takeQ (i := 5) (v := undef) (some 13) rfl rfl (by kernel_rfl) (by kernel_rfl) (by kernel_rfl) (by kernel_rfl) (fun _ _ _ h => h) (Or.inr ⟨by rfl, rfl⟩) ?_
    try simp only [Act.put, zA, zB, zC]
    refine wpAnyR_takeQ (i := 6) (v := undef) (some 14) rfl rfl (by kernel_rfl) (by kernel_rfl) (by kernel_rfl) (by kernel_rfl) (fun _ _ _ h => h) (Or.inr ⟨by rfl, rfl⟩) ?_
    try simp only [Act.put, zA, zB, zC]
    refine wpAnyR_takeQ (i := 7) (v := undef) (some 15) rfl rfl (by kernel_rfl) (by kernel_rfl) (by kernel_rfl) (by kernel_rfl) (fun _ _ _ h => h) (Or.inr ⟨by rfl, rfl⟩) ?_
    try simp only [Act.put, zA, zB, zC]
    refine wpAnyR_takeQ (i := 8) (v := undef) (some 16) rfl rfl (by kernel_rfl) (by kernel_rfl) (by kernel_rfl) (by kernel_rfl) (fun _ _ _ h => h) (Or.inr ⟨by rfl, rfl⟩) ?_
    try simp only [Act.put, zA, zB, zC]
    refine wpAnyR_takeQ (i := 9) (v := ?_) (some 17) rfl rfl (by kernel_rfl) (by kernel_rfl) (by kernel_rfl) (by kernel_rfl) (fun _ _ _ h => h) (Or.inl ⟨by rfl, ?_⟩) ?_
    rotate_left
    focus (intro wS hSw; (try dsimp only at hSw); go_simp; (try with_reducible rfl); (try (first | (rw [if_pos (by omega)]; (try go_simp); (try with_reducible rfl)) | (rw [if_neg (by omega)]; (try go_simp); (try with_reducible rfl)))))
    try simp only [Act.put, zA, zB, zC]
    refine wpAnyR_takeQ (i := 10) (v := ?_) (some 18) rfl rfl (by kernel_rfl) (by kernel_rfl) (by kernel_rfl) (by kernel_rfl) (fun _ _ _ h => h) (Or.inl ⟨by rfl, ?_⟩) ?_
    rotate_left
    focus (intro wS hSw; (try dsimp only at hSw); go_simp; (try with_reducible rfl); (try (first | (rw [if_pos (by omega)]; (try go_simp); (try with_reducible rfl)) | (rw [if_neg (by omega)]; (try go_simp); (try with_reducible rfl)))))
    try simp only [Act.put, zA, zB, zC]
    refine wpAnyR_takeQ (i := 11) (v := undef) (some 19) rfl rfl (by kernel_rfl) (by kernel_rfl) (by kernel_rfl) (by kernel_rfl) (fun _ _ _ h => h) (Or.inr ⟨by rfl, rfl⟩) ?_
    try simp only [Act.put, zA, zB, zC]
    refine wpAnyR_takeQ (i := 12) (v := undef) (some 20) rfl rfl (by kernel_rfl) (by kernel_rfl) (by kernel_rfl) (by kernel_rfl) (fun _ _ _ h => h) (Or.inr ⟨by rfl, rfl⟩) ?_
    try simp only [Act.put, zA, zB, zC]
    refine wpAnyR_takeQ (i := 13) (v := undef) (some 21) rfl rfl (by kernel_rfl) (by kernel_rfl) (by kernel_rfl) (by kernel_rfl) (fun _ _ _ h => h) (Or.inr ⟨by rfl, rfl⟩) ?_
    try simp only [Act.put, zA, zB, zC]
    refine wpAnyR_takeQ (i := 14) (v := undef) (some 22) rfl rfl (by kernel_rfl) (by kernel_rfl) (by kernel_rfl) (by kernel_rfl) (fun _ _ _ h => h) (Or.inr ⟨by rfl, rfl⟩) ?_
    try simp only [Act.put, zA, zB, zC]
    refine wpAnyR_takeQ (i := 15) (v := undef) (some 23) rfl rfl (by kernel_rfl) (by kernel_rfl) (by kernel_rfl) (by kernel_rfl) (fun _ _ _ h => h) (Or.inr ⟨by rfl, rfl⟩) ?_
    try simp only [Act.put, zA, zB, zC]
    refine wpAnyR_takeQ (i := 16) (v := undef) (some 24) rfl rfl (by kernel_rfl) (by kernel_rfl) (by kernel_rfl) (by kernel_rfl) (fun _ _ _ h => h) (Or.inr ⟨by rfl, rfl⟩) ?_
    try simp only [Act.put, zA, zB, zC]
    refine wpAnyR_takeQ (i := 17) (v := undef) (some 25) rfl rfl (by kernel_rfl) (by kernel_rfl) (by kernel_rfl) (by kernel_rfl) (fun _ _ _ h => h) (Or.inr ⟨by rfl, rfl⟩) ?_
    try simp only [Act.put, zA, zB, zC]
    refine wpAnyR_takeQ (i := 18) (v := ?_) (some 26) rfl rfl (by kernel_rfl) (by kernel_rfl) (by kernel_rfl) (by kernel_rfl) (fun _ _ _ h => h) (Or.inl ⟨by rfl, ?_⟩) ?_
    rotate_left
    focus (intro wS hSw; (try dsimp only at hSw); go_simp; (try with_reducible rfl); (try (first | (rw [if_pos (by omega)]; (try go_simp); (try with_reducible rfl)) | (rw [if_neg (by omega)]; (try go_simp); (try with_reducible rfl)))))
    try simp only [Act.put, zA, zB, zC]
    refine wpAnyR_done (by kernel_rfl) ?_ _
    go_wp2_with fail
    go_ret
    exact ⟨ret_bool (by rw [HE.out]), HG0.out.drew⟩
  obtain ⟨tt, htt⟩ : ∃ tt, ttS T.tracks = tt := ⟨_, rfl⟩
  have HT0 := Lib.hid htt
  have HZ := Lib.hid (show (tt == 0) = false from by
    rw [beq_eq_false_iff_ne, ← htt]
    unfold ttS
    have := okT_true hz
    rw [if_pos hz]
    omega)
  have HOK := Lib.hid hz
  clear hz htt
  cases hn : nameOk T.name with
  | false =>
    have HN := Lib.hid hn
    have HE := Lib.hid (validT_false_head T (by unfold headB; rw [hn]; simp))
    clear hn
    go_enter Tryz.func10, Tryz.ntmps10
    go_wp2_with fail
    refine wp_region_R [] (fun w' : World => w'.cell? ⟨w.heap.size, 0, none⟩ = some (.string T.name) ∧ w'.cell? ⟨w.heap.size, 1, none⟩ = some (.int .i64 T.tracks) ∧ w'.cell? ⟨w.heap.size, 2, none⟩ = some (.slice A T.labels.length c)) (by kernel_rfl) ?_
    have hS : (fun w' : World => w'.cell? ⟨w.heap.size, 0, none⟩ = some (.string T.name) ∧ w'.cell? ⟨w.heap.size, 1, none⟩ = some (.int .i64 T.tracks) ∧ w'.cell? ⟨w.heap.size, 2, none⟩ = some (.slice A T.labels.length c)) (w.alloc (.cells #[.string T.name, .int .i64 T.tracks, .slice A T.labels.length c] 24)).drew := ⟨HB0.out.drew.cell 0, HB0.out.drew.cell 1, HB0.out.drew.cell 2⟩
    refine wpAnyR_takeQ (i := 0) (v := ?_) (some 8) rfl rfl (by kernel_rfl) (by kernel_rfl) (by kernel_rfl) (by kernel_rfl) (fun _ _ _ h => h) (Or.inl ⟨by rfl, ?_⟩) ?_
    rotate_left
    focus (intro wS hSw; (try dsimp only at hSw); go_simp; (try with_reducible rfl); (try (first | (rw [if_pos (by omega)]; (try go_simp); (try with_reducible rfl)) | (rw [if_neg (by omega)]; (try go_simp); (try with_reducible rfl)))))
    try simp only [Act.put, zA, zB, zC]
    refine wpAnyR_take (i := 1) (v := ?_) [2, 3, 4, 5, 6, 7, 8, 9, 10, 11, 12, 13, 14, 15, 16, 17, 18] (some 9) rfl rfl (by kernel_rfl) (by kernel_rfl) (by kernel_rfl) (by kernel_rfl) (by kernel_rfl) (by kernel_rfl) (by kernel_rfl) (fun _ _ _ h => h) (Or.inl ⟨by rfl, ?_⟩) hS ?_
    rotate_left
    focus (intro wS hSw; (try dsimp only at hSw); go_simp; (try with_reducible rfl); (try (first | (rw [if_pos (by omega)]; (try go_simp); (try with_reducible rfl)) | (rw [if_neg (by omega)]; (try go_simp); (try with_reducible rfl)))))
    try simp only [Act.put, zA, zB, zC]
    refine wpAnyR_n1 (i := 2) rfl (by kernel_rfl) ?_
    intro K' hK
    rw [if_pos (by rfl)]
    simp only [List.getElem_toArray, List.getElem_cons_succ, List.getElem_cons_zero]
    go_wp2_with fail
    refine (table_any _ _).mono ?_
    rintro e w1 ⟨rfl, rfl⟩
    rw [HT0.out]
    go_wp2_with fail
    refine hK.out _ _ (.inr (fun h => h)) ?_
    clear hK
    refine wpAnyR_takeQ (i := 3) (v := ?_) (some 11) rfl rfl (by kernel_rfl) (by kernel_rfl) (by kernel_rfl) (by kernel_rfl) (fun _ _ _ h => h) (Or.inl ⟨by rfl, ?_⟩) ?_
    rotate_left
    focus (intro wS hSw; (try dsimp only at hSw); go_simp; (try with_reducible rfl); (try (first | (rw [if_pos (by omega)]; (try go_simp); (try with_reducible rfl)) | (rw [if_neg (by omega)]; (try go_simp); (try with_reducible rfl)))))
    try simp only [Act.put, zA, zB, zC]
    refine wpAnyR_takeQ (i := 4) (v := ?_) (some 12) rfl rfl (by kernel_rfl) (by kernel_rfl) (by kernel_rfl) (by kernel_rfl) (fun _ _ _ h => h) (Or.inl ⟨by rfl, ?_⟩) ?_
    rotate_left
    focus (intro wS hSw; (try dsimp only at hSw); go_simp; (try with_reducible rfl); (try (first | (rw [if_pos (by omega)]; (try go_simp); (try with_reducible rfl)) | (rw [if_neg (by omega)]; (try go_simp); (try with_reducible rfl)))))
    try simp only [Act.put, zA, zB, zC]
    rw [HZ.out]
    refine wpAnyR_takeQ (i := 5) (v := ?_) (some 13) rfl rfl (by kernel_rfl) (by kernel_rfl) (by kernel_rfl) (by kernel_rfl) (fun _ _ _ h => h) (Or.inl ⟨by rfl, ?_⟩) ?_
    rotate_left
    focus (intro wS hSw; (try dsimp only at hSw); go_simp; (try with_reducible rfl); (try (first | (rw [if_pos (by omega)]; (try go_simp); (try with_reducible rfl)) | (rw [if_neg (by omega)]; (try go_simp); (try with_reducible rfl)))))
    try simp only [Act.put, zA, zB, zC]
    refine wpAnyR_take (i := 6) (v := ?_) [7, 8, 9, 10, 11, 12, 13, 14, 15, 16, 17, 18] (some 14) rfl rfl (by kernel_rfl) (by kernel_rfl) (by kernel_rfl) (by kernel_rfl) (by kernel_rfl) (by kernel_rfl) (by kernel_rfl) (fun _ _ _ h => h) (Or.inl ⟨by rfl, ?_⟩) hS ?_
    rotate_left
    focus (intro wS hSw; (try dsimp only at hSw); go_simp; (try with_reducible rfl); (try (first | (rw [if_pos (by omega)]; (try go_simp); (try with_reducible rfl)) | (rw [if_neg (by omega)]; (try go_simp); (try with_reducible rfl)))))
    try simp only [Act.put, zA, zB, zC]
    refine wpAnyR_n1 (i := 7) rfl (by kernel_rfl) ?_
    intro K' hK
    rw [if_pos (by rfl)]
    simp only [List.getElem_toArray, List.getElem_cons_succ, List.getElem_cons_zero]
    go_wp2_with fail
    refine (validName_any _ _ hnm).mono ?_
    rintro e w1 ⟨rfl, rfl⟩
    rw [HN.out]
    go_wp2_with fail
    refine hK.out _ _ (.inr (fun h => h)) ?_
    clear hK
    refine wpAnyR_takeQ (i := 8) (v := ?_) (some 16) rfl rfl (by kernel_rfl) (by kernel_rfl) (by kernel_rfl) (by kernel_rfl) (fun _ _ _ h => h) (Or.inl ⟨by rfl, ?_⟩) ?_
    rotate_left
    focus (intro wS hSw; (try dsimp only at hSw); go_simp; (try with_reducible rfl); (try (first | (rw [if_pos (by omega)]; (try go_simp); (try with_reducible rfl)) | (rw [if_neg (by omega)]; (try go_simp); (try with_reducible rfl)))))
    try simp only [Act.put, zA, zB, zC]
    refine wpAnyR_takeQ (i := 9) (v := ?_) (some 17) rfl rfl (by kernel_rfl) (by kernel_rfl) (by kernel_rfl) (by kernel_rfl) (fun _ _ _ h => h) (Or.inl ⟨by rfl, ?_⟩) ?_
    rotate_left
    focus (intro wS hSw; (try dsimp only at hSw); go_simp; (try with_reducible rfl); (try (first | (rw [if_pos (by omega)]; (try go_simp); (try with_reducible rfl)) | (rw [if_neg (by omega)]; (try go_simp); (try with_reducible rfl)))))
    try simp only [Act.put, zA, zB, zC]
    refine wpAnyR_takeQ (i := 10) (v := ?_) (some 18) rfl rfl (by kernel_rfl) (by kernel_rfl) (by kernel_rfl) (by kernel_rfl) (fun _ _ _ h => h) (Or.inl ⟨by rfl, ?_⟩) ?_
    rotate_left
    focus (intro wS hSw; (try dsimp only at hSw); go_simp; (try with_reducible rfl); (try (first | (rw [if_pos (by omega)]; (try go_simp); (try with_reducible rfl)) | (rw [if_neg (by omega)]; (try go_simp); (try with_reducible rfl)))))
    try simp only [Act.put, zA, zB, zC]
    refine wpAnyR_takeQ (i := 11) (v := undef) (some 19) rfl rfl (by kernel_rfl) (by kernel_rfl) (by kernel_rfl) (by kernel_rfl) (fun _ _ _ h => h) (Or.inr ⟨by rfl, rfl⟩) ?_
    try simp only [Act.put, zA, zB, zC]
    refine wpAnyR_takeQ (i := 12) (v := undef) (some 20) rfl rfl (by kernel_rfl) (by kernel_rfl) (by kernel_rfl) (by kernel_rfl) (fun _ _ _ h => h) (Or.inr ⟨by rfl, rfl⟩) ?_
    try simp only [Act.put, zA, zB, zC]
    refine wpAnyR_takeQ (i := 13) (v := undef) (some 21) rfl rfl (by kernel_rfl) (by kernel_rfl) (by kernel_rfl) (by kernel_rfl) (fun _ _ _ h => h) (Or.inr ⟨by rfl, rfl⟩) ?_
    try simp only [Act.put, zA, zB, zC]
    refine wpAnyR_takeQ (i := 14) (v := undef) (some 22) rfl rfl (by kernel_rfl) (by kernel_rfl) (by kernel_rfl) (by kernel_rfl) (fun _ _ _ h => h) (Or.inr ⟨by rfl, rfl⟩) ?_
    try simp only [Act.put, zA, zB, zC]
    refine wpAnyR_takeQ (i := 15) (v := undef) (some 23) rfl rfl (by kernel_rfl) (by kernel_rfl) (by kernel_rfl) (by kernel_rfl) (fun _ _ _ h => h) (Or.inr ⟨by rfl, rfl⟩) ?_
    try simp only [Act.put, zA, zB, zC]
    refine wpAnyR_takeQ (i := 16) (v := undef) (some 24) rfl rfl (by kernel_rfl) (by kernel_rfl) (by kernel_rfl) (by kernel_rfl) (fun _ _ _ h => h) (Or.inr ⟨by rfl, rfl⟩) ?_
    try simp only [Act.put, zA, zB, zC]
    refine wpAnyR_takeQ (i := 17) (v := undef) (some 25) rfl rfl (by kernel_rfl) (by kernel_rfl) (by kernel_rfl) (by kernel_rfl) (fun _ _ _ h => h) (Or.inr ⟨by rfl, rfl⟩) ?_
    try simp only [Act.put, zA, zB, zC]
    refine wpAnyR_takeQ (i := 18) (v := ?_) (some 26) rfl rfl (by kernel_rfl) (by kernel_rfl) (by kernel_rfl) (by kernel_rfl) (fun _ _ _ h => h) (Or.inl ⟨by rfl, ?_⟩) ?_
    rotate_left
    focus (intro wS hSw; (try dsimp only at hSw); go_simp; (try with_reducible rfl); (try (first | (rw [if_pos (by omega)]; (try go_simp); (try with_reducible rfl)) | (rw [if_neg (by omega)]; (try go_simp); (try with_reducible rfl)))))
    try simp only [Act.put, zA, zB, zC]
    refine wpAnyR_done (by kernel_rfl) ?_ _
    go_wp2_with fail
    go_ret
    exact ⟨ret_bool (by rw [HE.out]), HG0.out.drew⟩
  | true =>
    have HN := Lib.hid hn
    clear hn
    obtain ⟨sl, hsl⟩ : ∃ sl, slotsS T.tracks = sl := ⟨_, rfl⟩
    have HL0 := Lib.hid hsl
    by_cases hl : (T.labels.length : Int) = sl
    rotate_left
    · have HL := Lib.hid (show ((T.labels.length : Int) != sl) = true from by rw [bne_iff_ne]; exact hl)
      have HE := Lib.hid (validT_false_head T (by unfold headB; rw [hsl, decide_eq_false hl]; simp))
      clear hl hsl
      go_enter Tryz.func10, Tryz.ntmps10
      go_wp2_with fail
      refine wp_region_R [] (fun w' : World => w'.cell? ⟨w.heap.size, 0, none⟩ = some (.string T.name) ∧ w'.cell? ⟨w.heap.size, 1, none⟩ = some (.int .i64 T.tracks) ∧ w'.cell? ⟨w.heap.size, 2, none⟩ = some (.slice A T.labels.length c)) (by kernel_rfl) ?_
      have hS : (fun w' : World => w'.cell? ⟨w.heap.size, 0, none⟩ = some (.string T.name) ∧ w'.cell? ⟨w.heap.size, 1, none⟩ = some (.int .i64 T.tracks) ∧ w'.cell? ⟨w.heap.size, 2, none⟩ = some (.slice A T.labels.length c)) (w.alloc (.cells #[.string T.name, .int .i64 T.tracks, .slice A T.labels.length c] 24)).drew := ⟨HB0.out.drew.cell 0, HB0.out.drew.cell 1, HB0.out.drew.cell 2⟩
      refine wpAnyR_takeQ (i := 0) (v := ?_) (some 8) rfl rfl (by kernel_rfl) (by kernel_rfl) (by kernel_rfl) (by kernel_rfl) (fun _ _ _ h => h) (Or.inl ⟨by rfl, ?_⟩) ?_
      rotate_left
      focus (intro wS hSw; (try dsimp only at hSw); go_simp; (try with_reducible rfl); (try (first | (rw [if_pos (by omega)]; (try go_simp); (try with_reducible rfl)) | (rw [if_neg (by omega)]; (try go_simp); (try with_reducible rfl)))))
      try simp only [Act.put, zA, zB, zC]
      refine wpAnyR_take (i := 1) (v := ?_) [2, 3, 4, 5, 6, 7, 8, 9, 10, 11, 12, 13, 14, 15, 16, 17, 18] (some 9) rfl rfl (by kernel_rfl) (by kernel_rfl) (by kernel_rfl) (by kernel_rfl) (by kernel_rfl) (by kernel_rfl) (by kernel_rfl) (fun _ _ _ h => h) (Or.inl ⟨by rfl, ?_⟩) hS ?_
      rotate_left
      focus (intro wS hSw; (try dsimp only at hSw); go_simp; (try with_reducible rfl); (try (first | (rw [if_pos (by omega)]; (try go_simp); (try with_reducible rfl)) | (rw [if_neg (by omega)]; (try go_simp); (try with_reducible rfl)))))
      try simp only [Act.put, zA, zB, zC]
      refine wpAnyR_n1 (i := 2) rfl (by kernel_rfl) ?_
      intro K' hK
      rw [if_pos (by rfl)]
      simp only [List.getElem_toArray, List.getElem_cons_succ, List.getElem_cons_zero]
      go_wp2_with fail
      refine (table_any _ _).mono ?_
      rintro e w1 ⟨rfl, rfl⟩
      rw [HT0.out]
      go_wp2_with fail
      refine hK.out _ _ (.inr (fun h => h)) ?_
      clear hK
      refine wpAnyR_takeQ (i := 3) (v := ?_) (some 11) rfl rfl (by kernel_rfl) (by kernel_rfl) (by kernel_rfl) (by kernel_rfl) (fun _ _ _ h => h) (Or.inl ⟨by rfl, ?_⟩) ?_
      rotate_left
      focus (intro wS hSw; (try dsimp only at hSw); go_simp; (try with_reducible rfl); (try (first | (rw [if_pos (by omega)]; (try go_simp); (try with_reducible rfl)) | (rw [if_neg (by omega)]; (try go_simp); (try with_reducible rfl)))))
      try simp only [Act.put, zA, zB, zC]
      refine wpAnyR_takeQ (i := 4) (v := ?_) (some 12) rfl rfl (by kernel_rfl) (by kernel_rfl) (by kernel_rfl) (by kernel_rfl) (fun _ _ _ h => h) (Or.inl ⟨by rfl, ?_⟩) ?_
      rotate_left
      focus (intro wS hSw; (try dsimp only at hSw); go_simp; (try with_reducible rfl); (try (first | (rw [if_pos (by omega)]; (try go_simp); (try with_reducible rfl)) | (rw [if_neg (by omega)]; (try go_simp); (try with_reducible rfl)))))
      try simp only [Act.put, zA, zB, zC]
      rw [HZ.out]
      refine wpAnyR_takeQ (i := 5) (v := ?_) (some 13) rfl rfl (by kernel_rfl) (by kernel_rfl) (by kernel_rfl) (by kernel_rfl) (fun _ _ _ h => h) (Or.inl ⟨by rfl, ?_⟩) ?_
      rotate_left
      focus (intro wS hSw; (try dsimp only at hSw); go_simp; (try with_reducible rfl); (try (first | (rw [if_pos (by omega)]; (try go_simp); (try with_reducible rfl)) | (rw [if_neg (by omega)]; (try go_simp); (try with_reducible rfl)))))
      try simp only [Act.put, zA, zB, zC]
      refine wpAnyR_take (i := 6) (v := ?_) [7, 8, 9, 10, 11, 12, 13, 14, 15, 16, 17, 18] (some 14) rfl rfl (by kernel_rfl) (by kernel_rfl) (by kernel_rfl) (by kernel_rfl) (by kernel_rfl) (by kernel_rfl) (by kernel_rfl) (fun _ _ _ h => h) (Or.inl ⟨by rfl, ?_⟩) hS ?_
      rotate_left
      focus (intro wS hSw; (try dsimp only at hSw); go_simp; (try with_reducible rfl); (try (first | (rw [if_pos (by omega)]; (try go_simp); (try with_reducible rfl)) | (rw [if_neg (by omega)]; (try go_simp); (try with_reducible rfl)))))
      try simp only [Act.put, zA, zB, zC]
      refine wpAnyR_n1 (i := 7) rfl (by kernel_rfl) ?_
      intro K' hK
      rw [if_pos (by rfl)]
      simp only [List.getElem_toArray, List.getElem_cons_succ, List.getElem_cons_zero]
      go_wp2_with fail
      refine (validName_any _ _ hnm).mono ?_
      rintro e w1 ⟨rfl, rfl⟩
      rw [HN.out]
      go_wp2_with fail
      refine hK.out _ _ (.inr (fun h => h)) ?_
      clear hK
      refine wpAnyR_takeQ (i := 8) (v := ?_) (some 16) rfl rfl (by kernel_rfl) (by kernel_rfl) (by kernel_rfl) (by kernel_rfl) (fun _ _ _ h => h) (Or.inl ⟨by rfl, ?_⟩) ?_
      rotate_left
      focus (intro wS hSw; (try dsimp only at hSw); go_simp; (try with_reducible rfl); (try (first | (rw [if_pos (by omega)]; (try go_simp); (try with_reducible rfl)) | (rw [if_neg (by omega)]; (try go_simp); (try with_reducible rfl)))))
      try simp only [Act.put, zA, zB, zC]
      refine wpAnyR_takeQ (i := 9) (v := ?_) (some 17) rfl rfl (by kernel_rfl) (by kernel_rfl) (by kernel_rfl) (by kernel_rfl) (fun _ _ _ h => h) (Or.inl ⟨by rfl, ?_⟩) ?_
      rotate_left
      focus (intro wS hSw; (try dsimp only at hSw); go_simp; (try with_reducible rfl); (try (first | (rw [if_pos (by omega)]; (try go_simp); (try with_reducible rfl)) | (rw [if_neg (by omega)]; (try go_simp); (try with_reducible rfl)))))
      try simp only [Act.put, zA, zB, zC]
      refine wpAnyR_takeQ (i := 10) (v := ?_) (some 18) rfl rfl (by kernel_rfl) (by kernel_rfl) (by kernel_rfl) (by kernel_rfl) (fun _ _ _ h => h) (Or.inl ⟨by rfl, ?_⟩) ?_
      rotate_left
      focus (intro wS hSw; (try dsimp only at hSw); go_simp; (try with_reducible rfl); (try (first | (rw [if_pos (by omega)]; (try go_simp); (try with_reducible rfl)) | (rw [if_neg (by omega)]; (try go_simp); (try with_reducible rfl)))))
      try simp only [Act.put, zA, zB, zC]
      refine wpAnyR_takeQ (i := 11) (v := ?_) (some 19) rfl rfl (by kernel_rfl) (by kernel_rfl) (by kernel_rfl) (by kernel_rfl) (fun _ _ _ h => h) (Or.inl ⟨by rfl, ?_⟩) ?_
      rotate_left
      focus (intro wS hSw; (try dsimp only at hSw); go_simp; (try with_reducible rfl); (try (first | (rw [if_pos (by omega)]; (try go_simp); (try with_reducible rfl)) | (rw [if_neg (by omega)]; (try go_simp); (try with_reducible rfl)))))
      try simp only [Act.put, zA, zB, zC]
      refine wpAnyR_take (i := 12) (v := ?_) [13, 17, 18] (some 20) rfl rfl (by kernel_rfl) (by kernel_rfl) (by kernel_rfl) (by kernel_rfl) (by kernel_rfl) (by kernel_rfl) (by kernel_rfl) (fun _ _ _ h => h) (Or.inl ⟨by rfl, ?_⟩) hS ?_
      rotate_left
      focus (intro wS hSw; (try dsimp only at hSw); go_simp; (try with_reducible rfl); (try (first | (rw [if_pos (by omega)]; (try go_simp); (try with_reducible rfl)) | (rw [if_neg (by omega)]; (try go_simp); (try with_reducible rfl)))))
      try simp only [Act.put, zA, zB, zC]
      refine wpAnyR_take (i := 13) (v := ?_) [17, 18] (some 21) rfl rfl (by kernel_rfl) (by kernel_rfl) (by kernel_rfl) (by kernel_rfl) (by kernel_rfl) (by kernel_rfl) (by kernel_rfl) (fun _ _ _ h => h) (Or.inl ⟨by rfl, ?_⟩) hS ?_
      rotate_left
      focus (intro wS hSw; (try dsimp only at hSw); go_simp; (try with_reducible rfl); (try (first | (rw [if_pos (by omega)]; (try go_simp); (try with_reducible rfl)) | (rw [if_neg (by omega)]; (try go_simp); (try with_reducible rfl)))))
      try simp only [Act.put, zA, zB, zC]
      refine wpAnyR_takeQ (i := 14) (v := ?_) (some 22) rfl rfl (by kernel_rfl) (by kernel_rfl) (by kernel_rfl) (by kernel_rfl) (fun _ _ _ h => h) (Or.inl ⟨by rfl, ?_⟩) ?_
      rotate_left
      focus (intro wS hSw; (try dsimp only at hSw); go_simp; (try with_reducible rfl); (try (first | (rw [if_pos (by omega)]; (try go_simp); (try with_reducible rfl)) | (rw [if_neg (by omega)]; (try go_simp); (try with_reducible rfl)))))
      try simp only [Act.put, zA, zB, zC]
      refine wpAnyR_take (i := 15) (v := ?_) [16, 17, 18] (some 23) rfl rfl (by kernel_rfl) (by kernel_rfl) (by kernel_rfl) (by kernel_rfl) (by kernel_rfl) (by kernel_rfl) (by kernel_rfl) (fun _ _ _ h => h) (Or.inl ⟨by rfl, ?_⟩) hS ?_
      rotate_left
      focus (intro wS hSw; (try dsimp only at hSw); go_simp; (try with_reducible rfl); (try (first | (rw [if_pos (by omega)]; (try go_simp); (try with_reducible rfl)) | (rw [if_neg (by omega)]; (try go_simp); (try with_reducible rfl)))))
      try simp only [Act.put, zA, zB, zC]
      refine wpAnyR_n1 (i := 16) rfl (by kernel_rfl) ?_
      intro K' hK
      rw [if_pos (by rfl)]
      simp only [List.getElem_toArray, List.getElem_cons_succ, List.getElem_cons_zero]
      go_wp2_with fail
      refine (slots_any _ _).mono ?_
      rintro e w1 ⟨rfl, rfl⟩
      rw [HL0.out]
      go_wp2_with fail
      refine hK.out _ _ (.inr (fun h => h)) ?_
      clear hK
      refine wpAnyR_takeQ (i := 17) (v := ?_) (some 25) rfl rfl (by kernel_rfl) (by kernel_rfl) (by kernel_rfl) (by kernel_rfl) (fun _ _ _ h => h) (Or.inl ⟨by rfl, ?_⟩) ?_
      rotate_left
      focus (intro wS hSw; (try dsimp only at hSw); go_simp; (try with_reducible rfl); (try (first | (rw [if_pos (by omega)]; (try go_simp); (try with_reducible rfl)) | (rw [if_neg (by omega)]; (try go_simp); (try with_reducible rfl)))))
      try simp only [Act.put, zA, zB, zC]
      rw [HL.out]
      refine wpAnyR_takeQ (i := 18) (v := ?_) (some 26) rfl rfl (by kernel_rfl) (by kernel_rfl) (by kernel_rfl) (by kernel_rfl) (fun _ _ _ h => h) (Or.inl ⟨by rfl, ?_⟩) ?_
      rotate_left
      focus (intro wS hSw; (try dsimp only at hSw); go_simp; (try with_reducible rfl); (try (first | (rw [if_pos (by omega)]; (try go_simp); (try with_reducible rfl)) | (rw [if_neg (by omega)]; (try go_simp); (try with_reducible rfl)))))
      try simp only [Act.put, zA, zB, zC]
      refine wpAnyR_done (by kernel_rfl) ?_ _
      go_wp2_with fail
      go_ret
      exact ⟨ret_bool (by rw [HE.out]), HG0.out.drew⟩
    have HL := Lib.hid (show ((T.labels.length : Int) != sl) = false from by rw [bne_eq_false_iff_eq]; exact hl)
    have h31 : T.labels.length ≤ 31 := by
      have h1 := ttS_bd T.tracks
      unfold slotsS at hsl
      omega
    have HHD := Lib.hid (show headB T = true from by unfold headB; rw [HOK.out, HN.out, hsl, decide_eq_true hl]; rfl)
    clear hl hsl
    go_enter Tryz.func10, Tryz.ntmps10
    go_wp2_with fail
    refine wp_region_R [] (fun w' : World => w'.cell? ⟨w.heap.size, 0, none⟩ = some (.string T.name) ∧ w'.cell? ⟨w.heap.size, 1, none⟩ = some (.int .i64 T.tracks) ∧ w'.cell? ⟨w.heap.size, 2, none⟩ = some (.slice A T.labels.length c)) (by kernel_rfl) ?_
    have hS : (fun w' : World => w'.cell? ⟨w.heap.size, 0, none⟩ = some (.string T.name) ∧ w'.cell? ⟨w.heap.size, 1, none⟩ = some (.int .i64 T.tracks) ∧ w'.cell? ⟨w.heap.size, 2, none⟩ = some (.slice A T.labels.length c)) (w.alloc (.cells #[.string T.name, .int .i64 T.tracks, .slice A T.labels.length c] 24)).drew := ⟨HB0.out.drew.cell 0, HB0.out.drew.cell 1, HB0.out.drew.cell 2⟩
    refine wpAnyR_takeQ (i := 0) (v := ?_) (some 8) rfl rfl (by kernel_rfl) (by kernel_rfl) (by kernel_rfl) (by kernel_rfl) (fun _ _ _ h => h) (Or.inl ⟨by rfl, ?_⟩) ?_
    rotate_left
    focus (intro wS hSw; (try dsimp only at hSw); go_simp; (try with_reducible rfl); (try (first | (rw [if_pos (by omega)]; (try go_simp); (try with_reducible rfl)) | (rw [if_neg (by omega)]; (try go_simp); (try with_reducible rfl)))))
    try simp only [Act.put, zA, zB, zC]
    refine wpAnyR_take (i := 1) (v := ?_) [2, 3, 4, 5, 6, 7, 8, 9, 10, 11, 12, 13, 14, 15, 16, 17, 18] (some 9) rfl rfl (by kernel_rfl) (by kernel_rfl) (by kernel_rfl) (by kernel_rfl) (by kernel_rfl) (by kernel_rfl) (by kernel_rfl) (fun _ _ _ h => h) (Or.inl ⟨by rfl, ?_⟩) hS ?_
    rotate_left
    focus (intro wS hSw; (try dsimp only at hSw); go_simp; (try with_reducible rfl); (try (first | (rw [if_pos (by omega)]; (try go_simp); (try with_reducible rfl)) | (rw [if_neg (by omega)]; (try go_simp); (try with_reducible rfl)))))
    try simp only [Act.put, zA, zB, zC]
    refine wpAnyR_n1 (i := 2) rfl (by kernel_rfl) ?_
    intro K' hK
    rw [if_pos (by rfl)]
    simp only [List.getElem_toArray, List.getElem_cons_succ, List.getElem_cons_zero]
    go_wp2_with fail
    refine (table_any _ _).mono ?_
    rintro e w1 ⟨rfl, rfl⟩
    rw [HT0.out]
    go_wp2_with fail
    refine hK.out _ _ (.inr (fun h => h)) ?_
    clear hK
    refine wpAnyR_takeQ (i := 3) (v := ?_) (some 11) rfl rfl (by kernel_rfl) (by kernel_rfl) (by kernel_rfl) (by kernel_rfl) (fun _ _ _ h => h) (Or.inl ⟨by rfl, ?_⟩) ?_
    rotate_left
    focus (intro wS hSw; (try dsimp only at hSw); go_simp; (try with_reducible rfl); (try (first | (rw [if_pos (by omega)]; (try go_simp); (try with_reducible rfl)) | (rw [if_neg (by omega)]; (try go_simp); (try with_reducible rfl)))))
    try simp only [Act.put, zA, zB, zC]
    refine wpAnyR_takeQ (i := 4) (v := ?_) (some 12) rfl rfl (by kernel_rfl) (by kernel_rfl) (by kernel_rfl) (by kernel_rfl) (fun _ _ _ h => h) (Or.inl ⟨by rfl, ?_⟩) ?_
    rotate_left
    focus (intro wS hSw; (try dsimp only at hSw); go_simp; (try with_reducible rfl); (try (first | (rw [if_pos (by omega)]; (try go_simp); (try with_reducible rfl)) | (rw [if_neg (by omega)]; (try go_simp); (try with_reducible rfl)))))
    try simp only [Act.put, zA, zB, zC]
    rw [HZ.out]
    refine wpAnyR_takeQ (i := 5) (v := ?_) (some 13) rfl rfl (by kernel_rfl) (by kernel_rfl) (by kernel_rfl) (by kernel_rfl) (fun _ _ _ h => h) (Or.inl ⟨by rfl, ?_⟩) ?_
    rotate_left
    focus (intro wS hSw; (try dsimp only at hSw); go_simp; (try with_reducible rfl); (try (first | (rw [if_pos (by omega)]; (try go_simp); (try with_reducible rfl)) | (rw [if_neg (by omega)]; (try go_simp); (try with_reducible rfl)))))
    try simp only [Act.put, zA, zB, zC]
    refine wpAnyR_take (i := 6) (v := ?_) [7, 8, 9, 10, 11, 12, 13, 14, 15, 16, 17, 18] (some 14) rfl rfl (by kernel_rfl) (by kernel_rfl) (by kernel_rfl) (by kernel_rfl) (by kernel_rfl) (by kernel_rfl) (by kernel_rfl) (fun _ _ _ h => h) (Or.inl ⟨by rfl, ?_⟩) hS ?_
    rotate_left
    focus (intro wS hSw; (try dsimp only at hSw); go_simp; (try with_reducible rfl); (try (first | (rw [if_pos (by omega)]; (try go_simp); (try with_reducible rfl)) | (rw [if_neg (by omega)]; (try go_simp); (try with_reducible rfl)))))
    try simp only [Act.put, zA, zB, zC]
    refine wpAnyR_n1 (i := 7) rfl (by kernel_rfl) ?_
    intro K' hK
    rw [if_pos (by rfl)]
    simp only [List.getElem_toArray, List.getElem_cons_succ, List.getElem_cons_zero]
    go_wp2_with fail
    refine (validName_any _ _ hnm).mono ?_
    rintro e w1 ⟨rfl, rfl⟩
    rw [HN.out]
    go_wp2_with fail
    refine hK.out _ _ (.inr (fun h => h)) ?_
    clear hK
    refine wpAnyR_takeQ (i := 8) (v := ?_) (some 16) rfl rfl (by kernel_rfl) (by kernel_rfl) (by kernel_rfl) (by kernel_rfl) (fun _ _ _ h => h) (Or.inl ⟨by rfl, ?_⟩) ?_
    rotate_left
    focus (intro wS hSw; (try dsimp only at hSw); go_simp; (try with_reducible rfl); (try (first | (rw [if_pos (by omega)]; (try go_simp); (try with_reducible rfl)) | (rw [if_neg (by omega)]; (try go_simp); (try with_reducible rfl)))))
    try simp only [Act.put, zA, zB, zC]
    refine wpAnyR_takeQ (i := 9) (v := ?_) (some 17) rfl rfl (by kernel_rfl) (by kernel_rfl) (by kernel_rfl) (by kernel_rfl) (fun _ _ _ h => h) (Or.inl ⟨by rfl, ?_⟩) ?_
    rotate_left
    focus (intro wS hSw; (try dsimp only at hSw); go_simp; (try with_reducible rfl); (try (first | (rw [if_pos (by omega)]; (try go_simp); (try with_reducible rfl)) | (rw [if_neg (by omega)]; (try go_simp); (try with_reducible rfl)))))
    try simp only [Act.put, zA, zB, zC]
    refine wpAnyR_takeQ (i := 10) (v := ?_) (some 18) rfl rfl (by kernel_rfl) (by kernel_rfl) (by kernel_rfl) (by kernel_rfl) (fun _ _ _ h => h) (Or.inl ⟨by rfl, ?_⟩) ?_
    rotate_left
    focus (intro wS hSw; (try dsimp only at hSw); go_simp; (try with_reducible rfl); (try (first | (rw [if_pos (by omega)]; (try go_simp); (try with_reducible rfl)) | (rw [if_neg (by omega)]; (try go_simp); (try with_reducible rfl)))))
    try simp only [Act.put, zA, zB, zC]
    refine wpAnyR_takeQ (i := 11) (v := ?_) (some 19) rfl rfl (by kernel_rfl) (by kernel_rfl) (by kernel_rfl) (by kernel_rfl) (fun _ _ _ h => h) (Or.inl ⟨by rfl, ?_⟩) ?_
    rotate_left
    focus (intro wS hSw; (try dsimp only at hSw); go_simp; (try with_reducible rfl); (try (first | (rw [if_pos (by omega)]; (try go_simp); (try with_reducible rfl)) | (rw [if_neg (by omega)]; (try go_simp); (try with_reducible rfl)))))
    try simp only [Act.put, zA, zB, zC]
    refine wpAnyR_take (i := 12) (v := ?_) [13, 17, 18] (some 20) rfl rfl (by kernel_rfl) (by kernel_rfl) (by kernel_rfl) (by kernel_rfl) (by kernel_rfl) (by kernel_rfl) (by kernel_rfl) (fun _ _ _ h => h) (Or.inl ⟨by rfl, ?_⟩) hS ?_
    rotate_left
    focus (intro wS hSw; (try dsimp only at hSw); go_simp; (try with_reducible rfl); (try (first | (rw [if_pos (by omega)]; (try go_simp); (try with_reducible rfl)) | (rw [if_neg (by omega)]; (try go_simp); (try with_reducible rfl)))))
    try simp only [Act.put, zA, zB, zC]
    refine wpAnyR_take (i := 13) (v := ?_) [17, 18] (some 21) rfl rfl (by kernel_rfl) (by kernel_rfl) (by kernel_rfl) (by kernel_rfl) (by kernel_rfl) (by kernel_rfl) (by kernel_rfl) (fun _ _ _ h => h) (Or.inl ⟨by rfl, ?_⟩) hS ?_
    rotate_left
    focus (intro wS hSw; (try dsimp only at hSw); go_simp; (try with_reducible rfl); (try (first | (rw [if_pos (by omega)]; (try go_simp); (try with_reducible rfl)) | (rw [if_neg (by omega)]; (try go_simp); (try with_reducible rfl)))))
    try simp only [Act.put, zA, zB, zC]
    refine wpAnyR_takeQ (i := 14) (v := ?_) (some 22) rfl rfl (by kernel_rfl) (by kernel_rfl) (by kernel_rfl) (by kernel_rfl) (fun _ _ _ h => h) (Or.inl ⟨by rfl, ?_⟩) ?_
    rotate_left
    focus (intro wS hSw; (try dsimp only at hSw); go_simp; (try with_reducible rfl); (try (first | (rw [if_pos (by omega)]; (try go_simp); (try with_reducible rfl)) | (rw [if_neg (by omega)]; (try go_simp); (try with_reducible rfl)))))
    try simp only [Act.put, zA, zB, zC]
    refine wpAnyR_take (i := 15) (v := ?_) [16, 17, 18] (some 23) rfl rfl (by kernel_rfl) (by kernel_rfl) (by kernel_rfl) (by kernel_rfl) (by kernel_rfl) (by kernel_rfl) (by kernel_rfl) (fun _ _ _ h => h) (Or.inl ⟨by rfl, ?_⟩) hS ?_
    rotate_left
    focus (intro wS hSw; (try dsimp only at hSw); go_simp; (try with_reducible rfl); (try (first | (rw [if_pos (by omega)]; (try go_simp); (try with_reducible rfl)) | (rw [if_neg (by omega)]; (try go_simp); (try with_reducible rfl)))))
    try simp only [Act.put, zA, zB, zC]
    refine wpAnyR_n1 (i := 16) rfl (by kernel_rfl) ?_
    intro K' hK
    rw [if_pos (by rfl)]
    simp only [List.getElem_toArray, List.getElem_cons_succ, List.getElem_cons_zero]
    go_wp2_with fail
    refine (slots_any _ _).mono ?_
    rintro e w1 ⟨rfl, rfl⟩
    rw [HL0.out]
    go_wp2_with fail
    refine hK.out _ _ (.inr (fun h => h)) ?_
    clear hK
    refine wpAnyR_takeQ (i := 17) (v := ?_) (some 25) rfl rfl (by kernel_rfl) (by kernel_rfl) (by kernel_rfl) (by kernel_rfl) (fun _ _ _ h => h) (Or.inl ⟨by rfl, ?_⟩) ?_
    rotate_left
    focus (intro wS hSw; (try dsimp only at hSw); go_simp; (try with_reducible rfl); (try (first | (rw [if_pos (by omega)]; (try go_simp); (try with_reducible rfl)) | (rw [if_neg (by omega)]; (try go_simp); (try with_reducible rfl)))))
    try simp only [Act.put, zA, zB, zC]
    rw [HL.out]
    refine wpAnyR_takeQ (i := 18) (v := ?_) (some 26) rfl rfl (by kernel_rfl) (by kernel_rfl) (by kernel_rfl) (by kernel_rfl) (fun _ _ _ h => h) (Or.inl ⟨by rfl, ?_⟩) ?_
    rotate_left
    focus (intro wS hSw; (try dsimp only at hSw); go_simp; (try with_reducible rfl); (try (first | (rw [if_pos (by omega)]; (try go_simp); (try with_reducible rfl)) | (rw [if_neg (by omega)]; (try go_simp); (try with_reducible rfl)))))
    try simp only [Act.put, zA, zB, zC]
    refine wpAnyR_done (by kernel_rfl) ?_ _
    have HM0 := Lib.hid (show MapIs Tryz.prog 73 kindV ((w.alloc (.cells #[.string T.name, .int .i64 T.tracks, .slice A T.labels.length c] 24)).drew.alloc (.map #[] 0)) (w.heap.size + 1) (seenF []) from (MapIs.made _ (by simp)).congr (fun a => by simp [seenF]))
    have hb1 := HB0.out.drew.alloc (.map #[] 0)
    have x2 := hb1.cell 2
    have hmm := @run_makeMap Tryz.prog
    go_wp2_with fail
    go_loopg [3, 31] T.labels.length (fun gk ov i wr => ∃ k : Nat, k ≤ T.labels.length ∧ gk = T.labels.length - k ∧ i = .int .i64 k ∧ OwnL wr w.heap.size 65 2 ov ((extsL (T.labels.take k)).map runC) ∧ MapIs Tryz.prog 73 kindV wr (w.heap.size + 1) (seenF (keysL (T.labels.take k))) ∧ Blk wr w.heap.size 24 #[.string T.name, .int .i64 T.tracks, .slice A T.labels.length c] ∧ (∀ j (hj : j < T.labels.length), j < k → okL T.tracks T.labels[j] = true) ∧ (keysL (T.labels.take k)).Nodup ∧ (extsL (T.labels.take k)).length ≤ 16 * k ∧ Grew w wr)
    case atStart => exact ⟨0, by omega, by omega, rfl, OwnL.nil _ _ _ _, HM0.out, hb1, fun j _ h => by omega, by simp [keysL], by simp [extsL], by (repeat' first | (with_reducible exact Grew.refl _) | (with_reducible assumption) | (with_reducible refine Grew.alloc ?_ _) | (with_reducible refine Grew.drew ?_) | (with_reducible refine Grew.drewN ?_ _) | (with_reducible refine Grew.setRow ?_ (by first | (simp; done) | (simp; omega) | omega) _) | (with_reducible refine Grew.setCell ?_ (by first | (simp; done) | (simp; omega) | omega) _) | ((with_reducible apply Grew.trans); rotate_left; (with_reducible assumption)) | ((with_reducible apply Grew.turn); rotate_left; (with_reducible assumption); (focus (intro i hi; first | omega | (simp at hi; omega)))) | fail)⟩
    case round =>
      obtain ⟨k, hk, hgk, rfl, hown, hm, hb, hall, hnd, hxl, hg⟩ := hrel
      have HGK := Lib.hid hgk
      have HA := Lib.hid hall
      have HND := Lib.hid hnd
      have HOWN := Lib.hid hown
      have HM := Lib.hid hm
      have HB := Lib.hid hb
      have HG := Lib.hid hg
      have hbl0 := hb.lt
      have hml := hm.lt
      clear hgk hall hnd x2
      by_cases hlt : k < T.labels.length
      · obtain ⟨b, off, B, d, l, rfl, hbl, hxk, hv, hla, c0, c1, c2, c3, c4⟩ := (HTB.out.hold hg).at_ hlt
        have hle := HS.out.ext T.labels[k] (List.getElem_mem hlt)
        rw [hv] at hle
        have hks := keysL_snoc T.labels k hlt
        have hes := extsL_snoc T.labels k hlt
        rw [hv] at hks hes
        have hgl : Grew wr (wr.alloc (.cells #[.int .i64 l.id, .int .i64 l.unit, .string l.name, .string l.note, .slice B l.ext.length d] 31)) := (Grew.refl wr).alloc _
        have HE := Lib.hid (empty_any B d l _ (hla.hold hgl) hle)
        have HV := Lib.hid hv
        have HLA := Lib.hid hla
        have HKS := Lib.hid hks
        have HES := Lib.hid hes
        have HLB := Lib.hid (Blk.new wr 31 #[.int .i64 l.id, .int .i64 l.unit, .string l.name, .string l.note, .slice B l.ext.length d] rfl)
        have HGL := Lib.hid hgl
        have hid0 := hla.id0
        have hid1 := hla.id1
        clear hv hxk hla hks hes hgl hown hm hb hg
        go_wp2_with fail
        refine HE.out.mono ?_
        rintro e w3 ⟨rfl, g3⟩
        have g3' := HGL.out.trans g3
        cases hem : emL l with
        | true =>
          have HOKL := Lib.hid (show okL T.tracks l = true from by unfold okL; rw [hem]; rfl)
          have HX := Lib.hid (emL_ext l hem)
          have HEM := Lib.hid hem
          have HG3 := Lib.hid g3'
          clear hem g3 g3' c0 c1 c2 c3 c4
          go_wp2_with fail
          go_roundg (T.labels.length - (k + 1))
          case measure => rw [HGK.out]; omega
          case rel =>
            refine ⟨k + 1, by omega, by omega, by go_num, ?_, ?_, HB.out.grew HG3.out, ?_, ?_, ?_, HG.out.trans HG3.out⟩
            · rw [HES.out, HX.out, List.append_nil]; exact HOWN.out.grew HG3.out
            · rw [HKS.out, if_pos HEM.out, List.append_nil]; exact HM.out.grew HG3.out
            · intro j hj hjk
              by_cases hjk' : j = k
              · subst hjk'; rw [HV.out]; exact HOKL.out
              · exact HA.out j hj (by omega)
            · rw [HKS.out, if_pos HEM.out, List.append_nil]; exact HND.out
            · rw [HES.out, HX.out, List.append_nil]; omega
        | false =>
          have HEM := Lib.hid hem
          have hlb3 := HLB.out.grew g3
          have hb3 := HB.out.grew g3'
          have x0 := hlb3.cell 0
          have x1 := hlb3.cell 1
          have x2 := hlb3.cell 2
          have x3 := hlb3.cell 3
          have x4 := hlb3.cell 4
          have y1 := hb3.cell 1
          have hl3 := hlb3.lt
          have hl4 := hb3.lt
          obtain ⟨q, hq⟩ : ∃ q, decide (l.unit > 0) = q := ⟨_, rfl⟩
          have hgk : Grew w3 (w3.alloc (.cells #[.int .i64 l.id, .bool q] 73)) := (Grew.refl w3).alloc _
          have HVL := Lib.hid (valid_lab B d l T.tracks _ (((HLA.out.hold g3')).hold hgk) (by omega))
          have HKB := Lib.hid (Blk.new w3 73 #[.int .i64 l.id, .bool q] rfl)
          have HKEY := Lib.hid (show keyL l = (l.id, q) from by unfold keyL; rw [← hq])
          have HG4 := Lib.hid (g3'.trans hgk)
          have HGK3 := Lib.hid hgk
          have HLB3 := Lib.hid hlb3
          clear hem g3 g3' c0 c1 c2 c3 c4 hgk hlb3 hb3 HLB
          go_wp2_with fail
          refine HVL.out.mono ?_
          rintro e w5 ⟨rfl, g5⟩
          have hg5 := HG4.out.trans g5
          have hkb5 := HKB.out.grew g5
          have hlb5 := (HLB3.out.grew HGK3.out).grew g5
          have z0 := hkb5.cell 0
          have z1 := hkb5.cell 1
          have z4 := hlb5.cell 4
          have hl5 := hkb5.lt
          have hl6 := hlb5.lt
          cases hvl : validL l T.tracks with
          | false =>
            have HF := Lib.hid (validT_false_lab T k hlt (by rw [HV.out]; unfold okL; rw [HEM.out, hvl]; rfl))
            have HG5 := Lib.hid hg5
            clear hvl hg5 hkb5 hlb5 g5
            go_wp2_with fail
            go_ret
            exact ⟨ret_bool (by rw [HF.out]), HG.out.trans HG5.out⟩
          | true =>
            obtain ⟨hi1, _, hx1, hx16⟩ := validL_ids l T.tracks hvl
            have HOKL := Lib.hid (show okL T.tracks l = true from by unfold okL; rw [hvl]; simp)
            have HKS1 := Lib.hid (show keysL (T.labels.take (k + 1)) = keysL (T.labels.take k) ++ [(l.id, q)] from by rw [HKS.out, if_neg (by rw [HEM.out]; simp), HKEY.out])
            obtain ⟨kl, hkl⟩ := kind_key (l.id, q) hid0 hid1
            have hlk := (HM.out.grew hg5).lookup_val kind_keyed kind_inj Tryz.underlying71 (zero_bool _) (l.id, q) hkl
            have HG5 := Lib.hid hg5
            have HKB5 := Lib.hid hkb5
            have HLB5 := Lib.hid hlb5
            have HKL := Lib.hid hkl
            by_cases hin : (l.id, q) ∈ keysL (T.labels.take k)
            · have HF := Lib.hid (validT_false_key T (fun hnd => by
                have h1 := keysL_take_nodup T.labels (k + 1) hnd
                rw [HKS1.out] at h1
                exact (List.nodup_append.1 h1).2.2 _ hin _ (List.mem_singleton.2 rfl) rfl))
              have hs1 : (seenF (keysL (T.labels.take k)) (l.id, q)).getD (.bool false) = .bool true := by unfold seenF; rw [if_pos hin]; rfl
              rw [hs1] at hlk
              unfold kindV at hlk
              clear hvl hg5 hkb5 hlb5 g5 hkl hin hs1
              go_wp2_with fail
              go_ret
              exact ⟨ret_bool (by rw [HF.out]), HG.out.trans HG5.out⟩
            · have hs1 : (seenF (keysL (T.labels.take k)) (l.id, q)).getD (.bool false) = .bool false := by unfold seenF; rw [if_neg hin]; rfl
              rw [hs1] at hlk
              unfold kindV at hlk
              have HNI := Lib.hid (show (keysL (T.labels.take (k + 1))).Nodup from by
                rw [HKS1.out, List.nodup_append]
                exact ⟨HND.out, by simp, fun a ha b hb he => hin (by rw [List.mem_singleton.1 hb] at he; rw [← he]; exact ha)⟩)
              clear hvl hg5 hkb5 hlb5 g5 hkl hin hs1
              go_wp2_with fail
              refine wp_region_R [6] (fun w' : World => w'.cell? ⟨w3.heap.size, 0, none⟩ = some (.int .i64 l.id) ∧ w'.cell? ⟨w3.heap.size, 1, none⟩ = some (.bool q) ∧ w'.cell? ⟨wr.heap.size, 4, none⟩ = some (.slice B l.ext.length d)) (by kernel_rfl) ?_
              have hS : (fun w' : World => w'.cell? ⟨w3.heap.size, 0, none⟩ = some (.int .i64 l.id) ∧ w'.cell? ⟨w3.heap.size, 1, none⟩ = some (.bool q) ∧ w'.cell? ⟨wr.heap.size, 4, none⟩ = some (.slice B l.ext.length d)) w5.drew := ⟨z0, z1, z4⟩
              refine wpAnyR_takeQ (i := 0) (v := ?_) (some 53) rfl rfl (by kernel_rfl) (by kernel_rfl) (by kernel_rfl) (by kernel_rfl) (fun _ _ _ h => h) (Or.inl ⟨by rfl, ?_⟩) ?_
              rotate_left
              focus (intro wS hSw; (try dsimp only at hSw); go_simp; (try with_reducible rfl); (try (first | (rw [if_pos (by omega)]; (try go_simp); (try with_reducible rfl)) | (rw [if_neg (by omega)]; (try go_simp); (try with_reducible rfl)))))
              try simp only [Act.put, zA, zB, zC]
              refine wpAnyR_take (i := 1) (v := ?_) [6, 7] (some 54) rfl rfl (by kernel_rfl) (by kernel_rfl) (by kernel_rfl) (by kernel_rfl) (by kernel_rfl) (by kernel_rfl) (by kernel_rfl) (fun _ _ _ h => h) (Or.inl ⟨by rfl, ?_⟩) hS ?_
              rotate_left
              focus (intro wS hSw; (try dsimp only at hSw); go_simp; (try with_reducible rfl); (try (first | (rw [if_pos (by omega)]; (try go_simp); (try with_reducible rfl)) | (rw [if_neg (by omega)]; (try go_simp); (try with_reducible rfl)))))
              try simp only [Act.put, zA, zB, zC]
              refine wpAnyR_takeQ (i := 2) (v := ?_) (some 55) rfl rfl (by kernel_rfl) (by kernel_rfl) (by kernel_rfl) (by kernel_rfl) (fun _ _ _ h => h) (Or.inl ⟨by rfl, ?_⟩) ?_
              rotate_left
              focus (intro wS hSw; (try dsimp only at hSw); go_simp; (try with_reducible rfl); (try (first | (rw [if_pos (by omega)]; (try go_simp); (try with_reducible rfl)) | (rw [if_neg (by omega)]; (try go_simp); (try with_reducible rfl)))))
              try simp only [Act.put, zA, zB, zC]
              refine wpAnyR_takeQ (i := 3) (v := ?_) (some 56) rfl rfl (by kernel_rfl) (by kernel_rfl) (by kernel_rfl) (by kernel_rfl) (fun _ _ _ h => h) (Or.inl ⟨by rfl, ?_⟩) ?_
              rotate_left
              focus (intro wS hSw; (try dsimp only at hSw); go_simp; (try with_reducible rfl); (try (first | (rw [if_pos (by omega)]; (try go_simp); (try with_reducible rfl)) | (rw [if_neg (by omega)]; (try go_simp); (try with_reducible rfl)))))
              try simp only [Act.put, zA, zB, zC]
              refine wpAnyR_take (i := 4) (v := ?_) [5, 6, 7] (some 57) rfl rfl (by kernel_rfl) (by kernel_rfl) (by kernel_rfl) (by kernel_rfl) (by kernel_rfl) (by kernel_rfl) (by kernel_rfl) (fun _ _ _ h => h) (Or.inl ⟨by rfl, ?_⟩) hS ?_
              rotate_left
              focus (intro wS hSw; (try dsimp only at hSw); go_simp; (try with_reducible rfl); (try (first | (rw [if_pos (by omega)]; (try go_simp); (try with_reducible rfl)) | (rw [if_neg (by omega)]; (try go_simp); (try with_reducible rfl)))))
              try simp only [Act.put, zA, zB, zC]
              refine wpAnyR_n1 (i := 5) rfl (by kernel_rfl) ?_
              intro K' hK
              rw [if_pos (by rfl)]
              simp only [List.getElem_toArray, List.getElem_cons_succ, List.getElem_cons_zero]
              have hkb6 := HKB5.out
              have hlb6 := HLB5.out
              have hb6 := HB.out.grew HG5.out
              have hown6 := HOWN.out.grew HG5.out
              have hm6 := HM.out.grew HG5.out
              have n1 := hown6.ne_blk hkb6 (by decide)
              have n2 := hown6.ne_blk hlb6 (by decide)
              have n3 := hown6.ne_blk hb6 (by decide)
              have n4 := own_map_ne2 hown6 hm6
              have hge := hown6.row_ge
              have hla6 := (HLA.out.hold HG5.out).runs.2
              have hbm := blk_map_ne2 hb6 hm6
              have HG6 := Lib.hid (HG.out.trans HG5.out)
              refine wp_pushAll (.tmp 55) (.tmp 57) 29 rfl w.heap.size 65 2 16 _ Tryz.underlying29 info_run rfl (by decide) _ _ (l.ext.map runC) rfl hown6.drew B l.ext.length d rfl (by rw [List.length_map]) (map_one_len _) hla6 (map_one_one _) (by rw [List.length_map]; omega) (by rw [List.length_map]; omega) HG6.out.size ?_
              intro v6 w6 hown7 hgr6 hat6
              have hkb7 := hkb6.drew.own hgr6 n1
              have hlb7 := hlb6.drew.own hgr6 n2
              have hb7 := hb6.drew.own hgr6 n3
              have hm7 := hm6.drew.grown hgr6 n4
              have hg7 : Grew w w6 := HG6.out.drew.own hgr6 hge (Nat.le_refl _)
              refine hK.out _ _ (.inr (fun _ => ⟨hkb7.cell 0, hkb7.cell 1, hlb7.cell 4⟩)) ?_
              clear hK
              refine wpAnyR_n1 (i := 6) rfl (by kernel_rfl) ?_
              intro K' hK
              rw [if_pos (by rfl)]
              simp only [List.getElem_toArray, List.getElem_cons_succ, List.getElem_cons_zero]
              refine wp_mapUpdate_is (.tmp 53) (.tmp 54) (.const (.bool true)) 71 rfl 4 kind_keyed kind_inj Tryz.underlying71 rfl hm7 (l.id, q) HKL.out (.bool true) rfl rfl ?_
              intro w7 hm8 ht8
              refine hK.out _ _ (.inl rfl) ?_
              refine wpAnyR_takeQ (i := 7) (v := ?_) (some 3) rfl rfl (by kernel_rfl) (by kernel_rfl) (by kernel_rfl) (by kernel_rfl) (fun _ _ _ h => h) (Or.inl ⟨by rfl, ?_⟩) ?_
              rotate_left
              focus (intro wS hSw; (try dsimp only at hSw); go_simp; (try with_reducible rfl); (try (first | (rw [if_pos (by omega)]; (try go_simp); (try with_reducible rfl)) | (rw [if_neg (by omega)]; (try go_simp); (try with_reducible rfl)))))
              try simp only [Act.put, zA, zB, zC]
              refine wpAnyR_done (by kernel_rfl) ?_ _
              have HO8 := Lib.hid (hown7.kept ht8 (fun g hg2 e => own_map_ne2 hown7 hm7 (by rw [hg2, e])))
              have HB8 := Lib.hid (hb7.turned ht8 (fun e => hbm e))
              have HG8 := Lib.hid (hg7.turn ht8 (fun i e => by omega))
              have HM8 := Lib.hid hm8
              clear hK hkb6 hlb6 hb6 hown6 hm6 n1 n2 n3 n4 hge hla6 hown7 hgr6 hat6 hkb7 hlb7 hb7 hm7 hg7 hm8 ht8 hlk x0 x1 x2 x3 x4 y1 z0 z1 z4 hS hbm
              go_wp2_with fail
              go_roundg (T.labels.length - (k + 1))
              case measure => rw [HGK.out]; omega
              case rel =>
                refine ⟨k + 1, by omega, by omega, by go_num, ?_, ?_, HB8.out, ?_, HNI.out, ?_, HG8.out⟩
                · rw [HES.out, List.map_append]; exact HO8.out
                · rw [HKS1.out]; exact HM8.out.congr (fun x => seenF_snoc _ _ _)
                · intro j hj hjk
                  by_cases hjk' : j = k
                  · subst hjk'; rw [HV.out]; exact HOKL.out
                  · exact HA.out j hj (by omega)
                · rw [HES.out, List.length_append]; omega
      · have hkn : k = T.labels.length := by omega
        subst hkn
        rw [List.take_length] at hown hxl
        obtain ⟨Ar, cr, hvr, hlr, hcr, hrr⟩ := own_runsL hown (HTB.out.okruns)
        subst hvr
        have HD := Lib.hid (disjoint_val (A := Ar) (c := cr) rfl (by omega) hrr _ rfl)
        have HF := Lib.hid (validT_of T HHD.out (List.all_eq_true.2 (fun l hl => by
          obtain ⟨j, hj, rfl⟩ := List.getElem_of_mem hl
          exact HA.out j hj hj)) (by have := HND.out; rwa [List.take_length] at this))
        clear hown hrr hm hb hg
        go_wp2_with fail
        refine HD.out.mono ?_
        rintro e w9 ⟨rfl, g9⟩
        go_wp2_with fail
        go_ret
        exact ⟨ret_bool (by rw [HF.out]), HG.out.trans g9⟩
end Go.Proofs.YtnlaogneceanoaaGreat
namespace Go.Proofs.YtnlaogneceanoaaGreat
set_option linter.unusedVariables false
set_option linter.unusedSimpArgs false
set_option linter.unusedSectionVars false
open Go.RowKit
attribute [local go_sem ↓] Go.wp_at_zero Go.wp_at_succ
theorem validT_facts (T : Tab) (h : validT T = true) : T.labels.length ≤ 31 ∧ (extsL T.labels).length ≤ 496 ∧ (∀ l ∈ T.labels, l.ext.length ≤ 16 ∧ 0 ≤ l.unit) :=
  ⟨((validT_iff T).1 h).small.1, ((validT_iff T).1 h).exts, ((validT_iff T).1 h).small.2⟩
theorem ttS_i64 (t : Int) : -9223372036854775808 ≤ ttS t ∧ ttS t ≤ 9223372036854775807 := by have := ttS_bd t; omega
set_option maxRecDepth 100000 in
set_option maxHeartbeats 4000000 in
theorem free_tab (A : Option Addr) (c : Nat) (xs : List LabE) (T : Tab) (w : World) (h : TabAt w A c xs T) (hs : SmallT T) (n : Nat) (hn : n = T.labels.length) (kf : List (Int × Int)) (hkf : freeT T = kf) :
    Calls Tryz.prog 17 #[.agg #[.string T.name, .int .i64 T.tracks, .slice A n c]] w fun e w' => ∃ A c, e = .returned (.slice A kf.length c) ∧ RunsAt w' w'.heap.size A kf ∧ Grew w w' := by
  subst hn; subst hkf
  have hg0 := (Grew.refl w).alloc (.cells #[.string T.name, .int .i64 T.tracks, .slice A T.labels.length c] 24)
  have HB0 := Lib.hid (Blk.new w 24 #[.string T.name, .int .i64 T.tracks, .slice A T.labels.length c] rfl)
  have HV := Lib.hid (valid_tab A c xs T _ (h.hold hg0) hs _ rfl)
  have HTB := Lib.hid h
  have HS := Lib.hid hs
  have HG0 := Lib.hid hg0
  have htr0 := h.tr0
  have htr1 := h.tr1
  clear h hs hg0
  cases hv : validT T with
  | false =>
    have HE := Lib.hid (show freeT T = [] from by unfold freeT; rw [hv]; rfl)
    have HVF := Lib.hid hv
    clear hv
    go_enter Tryz.func17, Tryz.ntmps17
    go_wp2_with fail
    refine HV.out.mono ?_
    rintro e w1 ⟨rfl, g1⟩
    rw [HVF.out]
    go_wp2_with fail
    go_ret
    exact ⟨none, 0, by rw [HE.out]; rfl, by rw [HE.out]; exact nil_runs _, HG0.out.trans g1⟩
  | true =>
    obtain ⟨hn31, hx496, hall⟩ := validT_facts T hv
    have HFR := Lib.hid (show freeS (ttS T.tracks) T.tracks (extsL T.labels) = freeT T from by unfold freeT; rw [if_pos hv])
    have HVF := Lib.hid hv
    have HAL := Lib.hid hall
    clear hv hall
    go_enter Tryz.func17, Tryz.ntmps17
    go_wp2_with fail
    refine HV.out.mono ?_
    rintro e w1 ⟨rfl, g1⟩
    rw [HVF.out]
    have hb1 := HB0.out.grew g1
    have hg1 := HG0.out.trans g1
    have x2 := hb1.cell 2
    have hl1 := hb1.lt
    clear g1
    go_wp2_with fail
    go_loopg [3, 12] T.labels.length (fun gk ov i wr => ∃ k : Nat, k ≤ T.labels.length ∧ gk = T.labels.length - k ∧ i = .int .i64 k ∧ OwnL wr w.heap.size 65 2 ov ((extsL (T.labels.take k)).map runC) ∧ Blk wr w.heap.size 24 #[.string T.name, .int .i64 T.tracks, .slice A T.labels.length c] ∧ (extsL (T.labels.take k)).length ≤ 16 * k ∧ Grew w wr)
    case atStart => exact ⟨0, by omega, by omega, rfl, OwnL.nil _ _ _ _, hb1, by simp [extsL], hg1⟩
    case round =>
      obtain ⟨k, hk, hgk, rfl, hown, hb, hxl, hg⟩ := hrel
      have HGK := Lib.hid hgk
      have HOWN := Lib.hid hown
      have HB := Lib.hid hb
      have HG := Lib.hid hg
      have hbl0 := hb.lt
      have hgs := hg.size
      clear hgk x2 hb1
      by_cases hlt : k < T.labels.length
      · obtain ⟨b, off, B, d, l, rfl, hbl, hxk, hv, hla, c0, c1, c2, c3, c4⟩ := (HTB.out.hold hg).at_ hlt
        have hle := (HAL.out T.labels[k] (List.getElem_mem hlt)).1
        rw [hv] at hle
        have hes := extsL_snoc T.labels k hlt
        rw [hv] at hes
        have HES := Lib.hid hes
        have hgl : Grew wr (wr.alloc (.cells #[.int .i64 l.id, .int .i64 l.unit, .string l.name, .string l.note, .slice B l.ext.length d] 31)) := (Grew.refl wr).alloc _
        have hr2 := ((hla.hold hgl).runs.2.mono (Nat.le_refl _))
        have hown2 := hown.alloc (.cells #[.int .i64 l.id, .int .i64 l.unit, .string l.name, .string l.note, .slice B l.ext.length d] 31)
        have hge := hown.row_ge
        have n3 := hown.ne_blk hb (by decide)
        have hb2 := hb.alloc (.cells #[.int .i64 l.id, .int .i64 l.unit, .string l.name, .string l.note, .slice B l.ext.length d] 31)
        have hg2 := hg.alloc (.cells #[.int .i64 l.id, .int .i64 l.unit, .string l.name, .string l.note, .slice B l.ext.length d] 31)
        clear hv hxk hla hes hgl hown hb hg
        go_wp2_with (at_builtin; refine wpList_pushAll (by rfl) _ _ 29 rfl w.heap.size 65 2 16 _ Tryz.underlying29 info_run rfl (by decide) _ _ (l.ext.map runC) (by rfl) hown2 B l.ext.length _ (by rfl) (by rw [List.length_map]) (map_one_len _) hr2 (map_one_one _) (by rw [List.length_map]; omega) (by rw [List.length_map]; omega) (by simp; omega) ?_; intro v1 w3 hown3 hgr3 hat3)
        have HO3 := Lib.hid hown3
        have HB3 := Lib.hid (hb2.own hgr3 n3)
        have HG3 := Lib.hid (hg2.own hgr3 hge (Nat.le_refl _))
        clear hown3 hgr3 hat3 hb2 hg2 hown2 hr2
        go_roundg (T.labels.length - (k + 1))
        case measure => rw [HGK.out]; omega
        case rel => exact ⟨k + 1, by omega, by omega, by go_num, by rw [HES.out, List.map_append]; exact HO3.out, HB3.out, by rw [HES.out, List.length_append]; omega, HG3.out⟩
      · have hkn : k = T.labels.length := by omega
        subst hkn
        rw [List.take_length] at hown hxl
        obtain ⟨Ar, cr, hvr, hlr, hcr, hrr⟩ := own_runsL hown (HTB.out.okruns)
        subst hvr
        have HF := Lib.hid (fun w9 (g9 : Grew wr w9) => free_val (A := Ar) (c := cr) (w := w9) rfl (by omega) (hrr.hold g9) (ttS T.tracks) T.tracks (ttS_i64 _).1 (ttS_i64 _).2 htr0 htr1 _ HFR.out)
        have hS : (fun w' : World => w'.cell? ⟨w.heap.size, 1, none⟩ = some (.int .i64 T.tracks)) wr.drew := hb.drew.cell 1
        clear hown hrr hb hg hlt
        go_wp2_with fail
        refine wp_region_R [] (fun w' : World => w'.cell? ⟨w.heap.size, 1, none⟩ = some (.int .i64 T.tracks)) (by kernel_rfl) ?_
        refine wpAnyR_takeQ (i := 0) (v := ?_) (some 21) rfl rfl (by kernel_rfl) (by kernel_rfl) (by kernel_rfl) (by kernel_rfl) (fun _ _ _ h => h) (Or.inl ⟨by rfl, ?_⟩) ?_
        rotate_left
        focus (intro wS hSw; (try dsimp only at hSw); go_simp; (try with_reducible rfl); (try (first | (rw [if_pos (by omega)]; (try go_simp); (try with_reducible rfl)) | (rw [if_neg (by omega)]; (try go_simp); (try with_reducible rfl)))))
        try simp only [Act.put, zA, zB, zC]
        refine wpAnyR_take (i := 1) (v := ?_) [2, 6, 7] (some 22) rfl rfl (by kernel_rfl) (by kernel_rfl) (by kernel_rfl) (by kernel_rfl) (by kernel_rfl) (by kernel_rfl) (by kernel_rfl) (fun _ _ _ h => h) (Or.inl ⟨by rfl, ?_⟩) hS ?_
        rotate_left
        focus (intro wS hSw; (try dsimp only at hSw); go_simp; (try with_reducible rfl); (try (first | (rw [if_pos (by omega)]; (try go_simp); (try with_reducible rfl)) | (rw [if_neg (by omega)]; (try go_simp); (try with_reducible rfl)))))
        try simp only [Act.put, zA, zB, zC]
        refine wpAnyR_takeQ (i := 3) (v := ?_) (some 24) rfl rfl (by kernel_rfl) (by kernel_rfl) (by kernel_rfl) (by kernel_rfl) (fun _ _ _ h => h) (Or.inl ⟨by rfl, ?_⟩) ?_
        rotate_left
        focus (intro wS hSw; (try dsimp only at hSw); go_simp; (try with_reducible rfl); (try (first | (rw [if_pos (by omega)]; (try go_simp); (try with_reducible rfl)) | (rw [if_neg (by omega)]; (try go_simp); (try with_reducible rfl)))))
        try simp only [Act.put, zA, zB, zC]
        refine wpAnyR_take (i := 4) (v := ?_) [6, 7] (some 25) rfl rfl (by kernel_rfl) (by kernel_rfl) (by kernel_rfl) (by kernel_rfl) (by kernel_rfl) (by kernel_rfl) (by kernel_rfl) (fun _ _ _ h => h) (Or.inl ⟨by rfl, ?_⟩) hS ?_
        rotate_left
        focus (intro wS hSw; (try dsimp only at hSw); go_simp; (try with_reducible rfl); (try (first | (rw [if_pos (by omega)]; (try go_simp); (try with_reducible rfl)) | (rw [if_neg (by omega)]; (try go_simp); (try with_reducible rfl)))))
        try simp only [Act.put, zA, zB, zC]
        refine wpAnyR_takeQ (i := 5) (v := ?_) (some 26) rfl rfl (by kernel_rfl) (by kernel_rfl) (by kernel_rfl) (by kernel_rfl) (fun _ _ _ h => h) (Or.inl ⟨by rfl, ?_⟩) ?_
        rotate_left
        focus (intro wS hSw; (try dsimp only at hSw); go_simp; (try with_reducible rfl); (try (first | (rw [if_pos (by omega)]; (try go_simp); (try with_reducible rfl)) | (rw [if_neg (by omega)]; (try go_simp); (try with_reducible rfl)))))
        try simp only [Act.put, zA, zB, zC]
        refine wpAnyR_n1 (i := 2) rfl (by kernel_rfl) ?_
        intro K' hK
        rw [if_pos (by rfl)]
        simp only [List.getElem_toArray, List.getElem_cons_succ, List.getElem_cons_zero]
        go_wp2_with fail
        refine (table_any _ _).mono ?_
        rintro e w8 ⟨rfl, rfl⟩
        go_wp2_with fail
        refine hK.out _ _ (.inr (fun h => h)) ?_
        clear hK
        refine wpAnyR_n1 (i := 6) rfl (by kernel_rfl) ?_
        intro K' hK
        rw [if_pos (by rfl)]
        simp only [List.getElem_toArray, List.getElem_cons_succ, List.getElem_cons_zero]
        go_wp2_with fail
        refine (HF.out _ (Grew.refl wr).drew).mono ?_
        rintro e w9 ⟨A9, c9, rfl, hr9, g9⟩
        have HR9 := Lib.hid hr9
        clear hr9
        go_wp2_with fail
        refine hK.out _ _ (.inr (fun h => (HB.out.drew.grew g9).cell 1)) ?_
        clear hK
        refine wpAnyR_takeQ (i := 7) (v := ?_) (some 2) rfl rfl (by kernel_rfl) (by kernel_rfl) (by kernel_rfl) (by kernel_rfl) (fun _ _ _ h => h) (Or.inl ⟨by rfl, ?_⟩) ?_
        rotate_left
        focus (intro wS hSw; (try dsimp only at hSw); go_simp; (try with_reducible rfl); (try (first | (rw [if_pos (by omega)]; (try go_simp); (try with_reducible rfl)) | (rw [if_neg (by omega)]; (try go_simp); (try with_reducible rfl)))))
        try simp only [Act.put, zA, zB, zC]
        refine wpAnyR_done (by kernel_rfl) ?_ _
        go_wp2_with fail
        go_ret
        exact ⟨A9, c9, rfl, HR9.out, HG.out.drew.trans g9⟩
def fndT (T : Tab) (id unit : Int) : Lab × Bool := if 0 ≤ idxT T id unit then (T.labels.getD (idxT T id unit).toNat labZ, true) else (labZ, false)
theorem fndT_cases (T : Tab) (id unit : Int) : (∃ (k : Nat) (hk : k < T.labels.length), idxT T id unit = (k : Int) ∧ fndT T id unit = (T.labels[k], true) ∧ hitL id unit T.labels[k] = true) ∨ (idxT T id unit = -1 ∧ fndT T id unit = (labZ, false) ∧ ∀ l ∈ T.labels, hitL id unit l = false) := by
  rcases idxP_cases (hitL id unit) T.labels with ⟨k, hk, h1, h2, _⟩ | ⟨h1, h2⟩
  · have h1' : idxT T id unit = (k : Int) := h1
    refine .inl ⟨k, hk, h1', ?_, h2⟩
    unfold fndT
    rw [h1', if_pos (by omega), Int.toNat_natCast, List.getD_eq_getElem?_getD, List.getElem?_eq_getElem hk]
    rfl
  · have h1' : idxT T id unit = -1 := h1
    refine .inr ⟨h1', ?_, h2⟩
    unfold fndT
    rw [h1', if_neg (by omega)]
set_option maxRecDepth 100000 in
set_option maxHeartbeats 4000000 in
theorem find_tab (A : Option Addr) (c : Nat) (xs : List LabE) (T : Tab) (w : World) (h : TabAt w A c xs T) (hs : SmallT T) (n : Nat) (hn : n = T.labels.length) (id unit : Int) (l : Lab) (ok : Bool) (hf : fndT T id unit = (l, ok)) :
    Calls Tryz.prog 8 #[.agg #[.string T.name, .int .i64 T.tracks, .slice A n c], .agg #[.int .i64 id, .int .i64 unit]] w fun e w' => ∃ B d, e = .returned (.tuple #[.agg #[.int .i64 l.id, .int .i64 l.unit, .string l.name, .string l.note, .slice B l.ext.length d], .bool ok]) ∧ LabAt w' B d l ∧ Grew w w' := by
  subst hn
  have hg0 := (((Grew.refl w).alloc (.cells #[.string T.name, .int .i64 T.tracks, .slice A T.labels.length c] 24)).alloc (.cells #[.int .i64 id, .int .i64 unit] 26)).alloc (.cells #[.int .i64 0, .int .i64 0, .string ⟨#[]⟩, .string ⟨#[]⟩, .slice none 0 0] 31)
  have hb0 := ((Blk.new w 24 #[.string T.name, .int .i64 T.tracks, .slice A T.labels.length c] rfl).alloc (.cells #[.int .i64 id, .int .i64 unit] 26)).alloc (.cells #[.int .i64 0, .int .i64 0, .string ⟨#[]⟩, .string ⟨#[]⟩, .slice none 0 0] 31)
  have hz0 := Blk.new ((w.alloc (.cells #[.string T.name, .int .i64 T.tracks, .slice A T.labels.length c] 24)).alloc (.cells #[.int .i64 id, .int .i64 unit] 26)) 31 #[.int .i64 0, .int .i64 0, .string ⟨#[]⟩, .string ⟨#[]⟩, .slice none 0 0] (n := w.heap.size + 1 + 1) (by simp)
  have HC := Lib.hid (fun k hk => cindex_any A c xs T id unit _ (h.hold hg0) hs _ rfl k hk)
  have HTB := Lib.hid h
  have HS := Lib.hid hs
  have HG0 := Lib.hid hg0
  have HB0 := Lib.hid hb0
  have HZ0 := Lib.hid hz0
  clear h hs hg0 hb0 hz0
  rcases fndT_cases T id unit with ⟨k, hk, h1, h2, _⟩ | ⟨h1, h2, _⟩
  · rw [h2] at hf
    injection hf with hf1 hf2
    subst hf2
    have HI := Lib.hid (HC.out _ h1)
    have HF1 := Lib.hid hf1
    have hle := HS.out.ext T.labels[k] (List.getElem_mem hk)
    rw [hf1] at hle
    clear HC h1 h2 hf1
    go_enter Tryz.func8, Tryz.ntmps8
    go_wp2_with fail
    refine HI.out.mono ?_
    rintro e w1 ⟨rfl, g1⟩
    have hb1 := HB0.out.grew g1
    have hg1 := HG0.out.trans g1
    have hz1 := HZ0.out.grew g1
    have x2 := hb1.cell 2
    have hl1 := hb1.lt
    have hl2 := hz1.lt
    have hkn : (k : Int) < (T.labels.length : Int) := by omega
    obtain ⟨b, off, B, d, l', rfl, hbl, hxk, hv, hla, c0, c1, c2, c3, c4⟩ := (HTB.out.hold hg1).at_ hk
    rw [HF1.out] at hv
    subst hv
    have hgl : Grew w1 (w1.alloc (.cells #[.int .i64 l.id, .int .i64 l.unit, .string l.name, .string l.note, .slice B l.ext.length d] 31)) := (Grew.refl w1).alloc _
    have HCL := Lib.hid (clone_runs B d l.ext.length l.ext _ rfl (by omega) (hla.hold hgl).runs.2)
    have HLA := Lib.hid (hla.hold hgl)
    have HNB := Lib.hid (Blk.new w1 31 #[.int .i64 l.id, .int .i64 l.unit, .string l.name, .string l.note, .slice B l.ext.length d] rfl)
    have HG1 := Lib.hid (hg1.trans hgl)
    have HZ1 := Lib.hid (hz1.grew hgl)
    clear g1 hb1 hg1 hz1 hla hgl hxk
    go_wp2_with fail
    refine HCL.out.mono ?_
    rintro e w2 ⟨v2, rfl, hown2, g2⟩
    obtain ⟨A2, c2', rfl, hl2c, hc2, hr2⟩ := own_runsL hown2 HLA.out.runs.1
    have hnb := HNB.out.grew g2
    have hzb := HZ1.out.grew g2
    have hg2 := HG1.out.trans g2
    have y0 := hnb.cell 0
    have y1 := hnb.cell 1
    have y2 := hnb.cell 2
    have y3 := hnb.cell 3
    have y4 := hnb.cell 4
    have yf := hnb.frozen 4
    have hnl := hnb.lt
    have z0 := hzb.cell 0
    have z1 := hzb.cell 1
    have z2 := hzb.cell 2
    have z3 := hzb.cell 3
    have z4 := hzb.cell 4
    have f0 := hzb.frozen 0
    have f1 := hzb.frozen 1
    have f2 := hzb.frozen 2
    have f3 := hzb.frozen 3
    have f4 := hzb.frozen 4
    have hzl := hzb.lt
    have hz9 := hg2.size
    have hz8 : w.heap.size + 1 + 1 < w1.heap.size := hl2
    have HL2 := Lib.hid (show LabAt w2 A2 c2' l from ⟨HLA.out.id0, HLA.out.id1, HLA.out.unit0, HLA.out.unit1, HLA.out.name, HLA.out.note, hr2, hl2c, hc2⟩)
    have HGG := Lib.hid hg2
    have HFA := Lib.hid (show ∀ b off, A2 = some ⟨b, off, none⟩ → w1.heap.size + 1 ≤ b from fun b off e => by have := (hown2.own_ge (by rw [e]; rfl)).1; simpa using this)
    clear hown2 hr2 hnb hzb g2 hg2 c0 c1 c2 c3 c4 x2
    go_wp2_with fail
    refine bodyPost_ret (by first | (simp [*, results, Tryz.results8, go_sem]; rfl) | simp [*, results, Tryz.results8, go_sem]) rfl ?_
    exact ⟨_, _, rfl, HL2.out.turned (S := fun k => k < w1.heap.size + 1) (by (repeat' first | (with_reducible exact Turned.refl _ _) | (with_reducible assumption) | (with_reducible refine Turned.alloc ?_ _) | (with_reducible refine Turned.drew ?_) | (with_reducible refine Turned.drewN ?_ _) | (with_reducible refine Turned.setRow ?_ (by first | (simp; done) | (simp; omega) | omega) _) | (with_reducible refine Turned.setCell ?_ (by first | (simp; done) | (simp; omega) | omega) _) | ((with_reducible apply Turned.andGrew); rotate_left; (with_reducible assumption)) | ((with_reducible apply Turned.trans); rotate_left; (with_reducible assumption)) | fail)) (fun _ b off e => by have := HFA.out b off e; omega), by have hg := HGG.out; (repeat' first | (with_reducible exact Grew.refl _) | (with_reducible assumption) | (with_reducible refine Grew.alloc ?_ _) | (with_reducible refine Grew.drew ?_) | (with_reducible refine Grew.drewN ?_ _) | (with_reducible refine Grew.setRow ?_ (by first | (simp; done) | (simp; omega) | omega) _) | (with_reducible refine Grew.setCell ?_ (by first | (simp; done) | (simp; omega) | omega) _) | ((with_reducible apply Grew.trans); rotate_left; (with_reducible assumption)) | ((with_reducible apply Grew.turn); rotate_left; (with_reducible assumption); (focus (intro i hi; first | omega | (simp at hi; omega)))) | fail)⟩
  · rw [h2] at hf
    injection hf with hf1 hf2
    subst hf2; subst hf1
    have HI := Lib.hid (HC.out _ h1)
    clear HC h1 h2
    go_enter Tryz.func8, Tryz.ntmps8
    go_wp2_with fail
    refine HI.out.mono ?_
    rintro e w1 ⟨rfl, g1⟩
    have hzb := HZ0.out.grew g1
    have z0 := hzb.cell 0
    have z1 := hzb.cell 1
    have z2 := hzb.cell 2
    have z3 := hzb.cell 3
    have z4 := hzb.cell 4
    have f0 := hzb.frozen 0
    have f1 := hzb.frozen 1
    have f2 := hzb.frozen 2
    have f3 := hzb.frozen 3
    have f4 := hzb.frozen 4
    have hzl := hzb.lt
    have hg1 := HG0.out.trans g1
    clear hzb g1
    go_wp2_with fail
    refine bodyPost_ret (by first | (simp [*, results, Tryz.results8, go_sem]; rfl) | simp [*, results, Tryz.results8, go_sem]) rfl ?_
    exact ⟨none, 0, rfl, LabAt.zero _, by (repeat' first | (with_reducible exact Grew.refl _) | (with_reducible assumption) | (with_reducible refine Grew.alloc ?_ _) | (with_reducible refine Grew.drew ?_) | (with_reducible refine Grew.drewN ?_ _) | (with_reducible refine Grew.setRow ?_ (by first | (simp; done) | (simp; omega) | omega) _) | (with_reducible refine Grew.setCell ?_ (by first | (simp; done) | (simp; omega) | omega) _) | ((with_reducible apply Grew.trans); rotate_left; (with_reducible assumption)) | ((with_reducible apply Grew.turn); rotate_left; (with_reducible assumption); (focus (intro i hi; first | omega | (simp at hi; omega)))) | fail)⟩
def newT (s : ByteArray) (t : Int) : Tab × Int := if okT t = true ∧ nameOk s = true then (⟨s, t, List.replicate (slotsS t).toNat labZ⟩, 0) else (tabZ, 1)
theorem slots_nat (t : Int) : ((slotsS t).toNat : Int) = slotsS t ∧ (slotsS t).toNat ≤ 31 := by
  have := ttS_bd t
  unfold slotsS
  omega
theorem made_labs (w : World) (n : Nat) (hn : n ≤ 1000) : (Instr.makeSlice 22 (.int .i64 (n : Int)) (.int .i64 (n : Int))).run Tryz.prog w = .ok (.slice (some ⟨w.heap.size, 0, none⟩) n n) (w.alloc (.cells (madeCells #[.int .i64 0, .int .i64 0, .string ⟨#[]⟩, .string ⟨#[]⟩, .slice none 0 0] (n * 5)) 31)) := by
  obtain ⟨i, hi, hz0, hz1, hz2⟩ : ∃ i, Tryz.prog.info? 31 = some i ∧ i.zero = some (.agg #[.int .i64 0, .int .i64 0, .string ⟨#[]⟩, .string ⟨#[]⟩, .slice none 0 0]) ∧ i.size = 5 ∧ i.bytes = 72 := by
    have h := info_lab
    cases hq : Tryz.prog.info? 31 with
    | none => rw [hq] at h; cases h
    | some i => rw [hq] at h; simp at h; exact ⟨i, rfl, h.1, h.2.1, h.2.2⟩
  have h := run_make (P := Tryz.prog) w 22 31 i _ Tryz.underlying22 hi hz0 .i64 .i64 (n : Int) (n : Int) (by omega) (by omega) (by rw [hz2]; omega) (by omega)
  rw [hz1] at h
  simp only [Int.toNat_natCast] at h
  exact h
theorem made_tab (w : World) (n : Nat) (s : ByteArray) (t : Int) (hs : s.size ≤ 9223372036854775807) (t0 : -9223372036854775808 ≤ t) (t1 : t ≤ 9223372036854775807) (hn : n ≤ 1000) {g : Nat} (hgw : g = w.heap.size) {w' : World} (hw : Grew (w.alloc (.cells (madeCells #[.int .i64 0, .int .i64 0, .string ⟨#[]⟩, .string ⟨#[]⟩, .slice none 0 0] (n * 5)) 31)) w') :
    TabAt w' (some ⟨g, 0, none⟩) n (List.replicate n ⟨none, 0, labZ⟩) ⟨s, t, List.replicate n labZ⟩ := by
  subst hgw
  refine TabAt.hold ?_ hw
  refine ⟨fun x hx => by rw [List.eq_of_mem_replicate hx]; exact LabAt.zero _, fun h0 => ⟨w.heap.size, 0, rfl, by simp, fun j cs hj i v hi => ?_⟩, by simp, by omega, by simp, t0, t1, hs⟩
  rw [List.map_replicate, List.getElem?_replicate] at hj
  split at hj
  · rename_i hjn
    injection hj with hj
    subst hj
    have hi5 : i < 5 := (List.getElem?_eq_some_iff.1 hi).1
    rw [(Blk.new w 31 _ rfl).cell]
    unfold madeCells
    rw [Nat.zero_add, Array.getElem?_map, Array.getElem?_range, if_pos (by omega)]
    simp only [Option.map_some]
    have hm : (j * 5 + i) % 5 = i := by omega
    have h5 : (#[Value.int .i64 0, .int .i64 0, .string ⟨#[]⟩, .string ⟨#[]⟩, .slice none 0 0] : Array Value).size = 5 := rfl
    rw [h5, hm]
    match i, hi5 with
    | 0, _ => exact hi
    | 1, _ => exact hi
    | 2, _ => exact hi
    | 3, _ => exact hi
    | 4, _ => exact hi
  · cases hj
set_option maxRecDepth 100000 in
set_option maxHeartbeats 4000000 in
theorem new_tab (s : ByteArray) (t : Int) (w : World) (hs : s.size ≤ 9223372036854775807) (t0 : -9223372036854775808 ≤ t) (t1 : t ≤ 9223372036854775807) (T : Tab) (er : Int) (hT : newT s t = (T, er)) :
    Calls Tryz.prog 24 #[.string s, .int .i64 t] w fun e w' => ∃ A c xs, e = .returned (.tuple #[.agg #[.string T.name, .int .i64 T.tracks, .slice A T.labels.length c], .int .i64 er]) ∧ TabAt w' A c xs T ∧ Grew w w' := by
  have hz0 := Blk.new w 24 #[.string ⟨#[]⟩, .int .i64 0, .slice none 0 0] rfl
  have hG := (Grew.refl w).alloc (.cells #[.string ⟨#[]⟩, .int .i64 0, .slice none 0 0] 24)
  have z0 := hz0.cell 0
  have z1 := hz0.cell 1
  have z2 := hz0.cell 2
  have f0 := hz0.frozen 0
  have f1 := hz0.frozen 1
  have f2 := hz0.frozen 2
  by_cases ho : okT t = true
  rotate_left
  · unfold newT at hT
    rw [if_neg (fun h => ho h.1)] at hT
    injection hT with h1 h2
    subst h1; subst h2
    have HT0 := Lib.hid (show ttS t = 0 from by unfold ttS; rw [if_neg ho])
    clear ho
    go_enter Tryz.func24, Tryz.ntmps24
    go_wp2_with fail
    refine (table_any _ _).mono ?_
    rintro e w1 ⟨rfl, rfl⟩
    rw [HT0.out]
    go_wp2_with fail
    refine bodyPost_ret (by first | (simp [*, results, Tryz.results24, go_sem]; rfl) | simp [*, results, Tryz.results24, go_sem]) rfl ?_
    exact ⟨none, 0, [], rfl, TabAt.zero _, by (repeat' first | (with_reducible exact Grew.refl _) | (with_reducible assumption) | (with_reducible refine Grew.alloc ?_ _) | (with_reducible refine Grew.drew ?_) | (with_reducible refine Grew.drewN ?_ _) | (with_reducible refine Grew.setRow ?_ (by first | (simp; done) | (simp; omega) | omega) _) | (with_reducible refine Grew.setCell ?_ (by first | (simp; done) | (simp; omega) | omega) _) | ((with_reducible apply Grew.trans); rotate_left; (with_reducible assumption)) | ((with_reducible apply Grew.turn); rotate_left; (with_reducible assumption); (focus (intro i hi; first | omega | (simp at hi; omega)))) | fail)⟩
  obtain ⟨tt, htt⟩ : ∃ tt, ttS t = tt := ⟨_, rfl⟩
  have HT0 := Lib.hid htt
  have hz : (tt == 0) = false := by
    rw [beq_eq_false_iff_ne, ← htt]
    unfold ttS
    have := okT_true ho
    rw [if_pos ho]
    omega
  clear htt
  cases hn : nameOk s with
  | false =>
    unfold newT at hT
    rw [if_neg (fun h => by rw [hn] at h; cases h.2)] at hT
    injection hT with h1 h2
    subst h1; subst h2
    have HN := Lib.hid hn
    clear ho hn
    go_enter Tryz.func24, Tryz.ntmps24
    go_wp2_with fail
    refine (table_any _ _).mono ?_
    rintro e w1 ⟨rfl, rfl⟩
    rw [HT0.out]
    go_wp2_with fail
    refine (validName_any _ _ hs).mono ?_
    rintro e w1 ⟨rfl, rfl⟩
    rw [HN.out]
    go_wp2_with fail
    refine bodyPost_ret (by first | (simp [*, results, Tryz.results24, go_sem]; rfl) | simp [*, results, Tryz.results24, go_sem]) rfl ?_
    exact ⟨none, 0, [], rfl, TabAt.zero _, by (repeat' first | (with_reducible exact Grew.refl _) | (with_reducible assumption) | (with_reducible refine Grew.alloc ?_ _) | (with_reducible refine Grew.drew ?_) | (with_reducible refine Grew.drewN ?_ _) | (with_reducible refine Grew.setRow ?_ (by first | (simp; done) | (simp; omega) | omega) _) | (with_reducible refine Grew.setCell ?_ (by first | (simp; done) | (simp; omega) | omega) _) | ((with_reducible apply Grew.trans); rotate_left; (with_reducible assumption)) | ((with_reducible apply Grew.turn); rotate_left; (with_reducible assumption); (focus (intro i hi; first | omega | (simp at hi; omega)))) | fail)⟩
  | true =>
    unfold newT at hT
    rw [if_pos ⟨ho, hn⟩] at hT
    injection hT with h1 h2
    subst h1; subst h2
    obtain ⟨h1, h2⟩ := slots_nat t
    have HN := Lib.hid hn
    generalize (slotsS t).toNat = m at *
    have HSL := Lib.hid h1.symm
    have hmk := fun w => made_labs w m (by omega)
    have hml : (List.replicate m labZ).length = m := List.length_replicate
    have HMT := Lib.hid (fun w0 g hg => made_tab w0 m s t hs t0 t1 (by omega) (g := g) hg (Grew.refl _))
    have HML := Lib.hid hml
    clear ho hn h1 hml
    go_enter Tryz.func24, Tryz.ntmps24
    go_wp2_with fail
    refine (table_any _ _).mono ?_
    rintro e w1 ⟨rfl, rfl⟩
    rw [HT0.out]
    go_wp2_with fail
    refine (validName_any _ _ hs).mono ?_
    rintro e w1 ⟨rfl, rfl⟩
    rw [HN.out]
    go_wp2_with fail
    refine (slots_any _ _).mono ?_
    rintro e w1 ⟨rfl, rfl⟩
    rw [HSL.out]
    go_wp2_with fail
    refine bodyPost_ret (by first | (simp [*, results, Tryz.results24, go_sem]; rfl) | simp [*, results, Tryz.results24, go_sem]) rfl ?_
    exact ⟨_, _, _, by rw [HML.out], HMT.out _ _ (by simp), by (repeat' first | (with_reducible exact Grew.refl _) | (with_reducible assumption) | (with_reducible refine Grew.alloc ?_ _) | (with_reducible refine Grew.drew ?_) | (with_reducible refine Grew.drewN ?_ _) | (with_reducible refine Grew.setRow ?_ (by first | (simp; done) | (simp; omega) | omega) _) | (with_reducible refine Grew.setCell ?_ (by first | (simp; done) | (simp; omega) | omega) _) | ((with_reducible apply Grew.trans); rotate_left; (with_reducible assumption)) | ((with_reducible apply Grew.turn); rotate_left; (with_reducible assumption); (focus (intro i hi; first | omega | (simp at hi; omega)))) | fail)⟩
end Go.Proofs.YtnlaogneceanoaaGreat
namespace Go.Proofs.YtnlaogneceanoaaGreat
set_option linter.unusedVariables false
set_option linter.unusedSimpArgs false
set_option linter.unusedSectionVars false
open Go.RowKit
/-- The pieces of 128 bytes. -/
def cutS (s : ByteArray) : List ByteArray := (List.range (s.size / 128)).map fun i => s.extract (128 * i) (128 * i + 128)
theorem cutS_len (s : ByteArray) : (cutS s).length = s.size / 128 := by unfold cutS; simp
theorem cutS_get (s : ByteArray) (i : Nat) (h : i < (cutS s).length) : (cutS s)[i] = s.extract (128 * i) (128 * i + 128) := by simp [cutS]
theorem cutS_app (a b : ByteArray) (ha : a.size % 128 = 0) : cutS (a ++ b) = cutS a ++ cutS b := by
  have hs : (a ++ b).size / 128 = a.size / 128 + b.size / 128 := by rw [ByteArray.size_append]; omega
  refine List.ext_getElem (by rw [List.length_append, cutS_len, cutS_len, cutS_len, hs]) (fun i h1 h2 => ?_)
  rw [cutS_len, hs] at h1
  by_cases hi : i < a.size / 128
  · rw [List.getElem_append_left (by rw [cutS_len]; exact hi)]
    rw [cutS_get, cutS_get, ByteArray.extract_append]
    have h0 : b.extract (128 * i - a.size) (128 * i + 128 - a.size) = ⟨#[]⟩ := by
      have h9 : 128 * i + 128 - a.size = 0 := by omega
      have h8 : 128 * i - a.size = 0 := by omega
      rw [h9, h8]
      apply ByteArray.ext
      simp
    rw [h0]
    exact ByteArray.append_empty
  · rw [List.getElem_append_right (by rw [cutS_len]; omega)]
    rw [cutS_get, cutS_get, ByteArray.extract_append]
    have h0 : a.extract (128 * i) (128 * i + 128) = ⟨#[]⟩ := by
      apply ByteArray.ext
      simp
      omega
    rw [h0, cutS_len]
    have e1 : 128 * i - a.size = 128 * (i - a.size / 128) := by omega
    have e2 : 128 * i + 128 - a.size = 128 * (i - a.size / 128) + 128 := by omega
    rw [e1, e2]
    exact ByteArray.empty_append
/-- What follows the first k pieces. -/
def restS (s : ByteArray) (k : Nat) : ByteArray := s.extract (128 * k) s.size
theorem restS_zero (s : ByteArray) : restS s 0 = s := by unfold restS; simp
theorem restS_size (s : ByteArray) (k : Nat) (h : 128 * k ≤ s.size) : (restS s k).size = s.size - 128 * k := by unfold restS; simp
theorem restS_next (s : ByteArray) (k : Nat) (h : 128 * k + 128 ≤ s.size) : (restS s k).extract 128 (restS s k).size = restS s (k + 1) := by
  rw [restS_size s k (by omega)]
  unfold restS
  rw [ByteArray.extract_extract]
  congr 1 <;> omega
theorem restS_head (s : ByteArray) (k : Nat) (h : 128 * k + 128 ≤ s.size) : (restS s k).extract 0 128 = s.extract (128 * k) (128 * k + 128) := by
  unfold restS
  rw [ByteArray.extract_extract]
  congr 1
  omega
theorem cutS_take (s : ByteArray) (k : Nat) (h : 128 * k + 128 ≤ s.size) : (cutS s).take (k + 1) = (cutS s).take k ++ [s.extract (128 * k) (128 * k + 128)] := by
  have hk : k < (cutS s).length := by rw [cutS_len]; omega
  rw [List.take_succ_eq_append_getElem hk]
  rw [cutS_get]
/-- The sectors of a table. -/
def bodyS (T : Tab) (k : Nat) : ByteArray := ((T.labels.take k).map fun l => encS l T.tracks).foldl (· ++ ·) (headS T.name T.tracks)
def secT (T : Tab) : List ByteArray := if validT T = true then cutS (bodyS T T.labels.length) else []
theorem bodyS_zero (T : Tab) : bodyS T 0 = headS T.name T.tracks := rfl
theorem bodyS_next (T : Tab) (k : Nat) (h : k < T.labels.length) : bodyS T (k + 1) = bodyS T k ++ encS T.labels[k] T.tracks := by
  unfold bodyS
  rw [List.take_succ_eq_append_getElem h, List.map_append, List.foldl_append]
  rfl
end Go.Proofs.YtnlaogneceanoaaGreat
namespace Go.Proofs.YtnlaogneceanoaaGreat
set_option linter.unusedVariables false
set_option linter.unusedSimpArgs false
set_option linter.unusedSectionVars false
open Go.RowKit
attribute [local go_sem ↓] Go.wp_at_zero Go.wp_at_succ
def strC (s : ByteArray) : List Value := [.string s]
theorem info_str : (Tryz.prog.info? 9).map (fun i => (i.zero, i.size, i.bytes)) = some (some (.string ⟨#[]⟩), 1, 16) := by kernel_rfl
set_option maxRecDepth 100000 in
set_option maxHeartbeats 4000000 in
theorem rcut_any (s : ByteArray) (w : World) (hs : s.size ≤ 100000) :
    Calls Tryz.prog 82 #[.string s] w fun e w' => ∃ v, e = .returned v ∧ OwnL w' w.heap.size 9 1 v ((cutS s).map strC) ∧ Grew w w' := by
  have hg0 := (Grew.refl w).alloc (.cells #[] 9)
  have ho0 : OwnL (w.alloc (.cells #[] 9)) w.heap.size 9 1 (.slice (some ⟨w.heap.size, 0, none⟩) 0 0) [] := OwnL.empty _ _ _ _ (by simp) (by simp)
  have hl0 := cutS_len s
  go_enter Tryz.func82, Tryz.ntmps82
  go_wp2_with fail
  go_loopg [3, 4] (s.size / 128) (fun gk ov i wr => ∃ k m : Nat, m = 128 * k ∧ k ≤ s.size / 128 ∧ gk = s.size / 128 - k ∧ i = .int .i64 (m : Int) ∧ OwnL wr w.heap.size 9 1 ov (((cutS s).take k).map strC) ∧ Grew w wr)
  case atStart => exact ⟨0, 0, by omega, by omega, by omega, rfl, ho0, hg0⟩
  case round =>
    obtain ⟨k, m, hm, hk, hgk, rfl, hown, hg⟩ := hrel
    have HGK := Lib.hid hgk
    have HM := Lib.hid hm
    have hml : m ≤ 100000 := by omega
    have hgs := hg.size
    have htl : ((cutS s).take k).length ≤ 1000 := by rw [List.length_take]; omega
    clear hgk ho0 hg0
    by_cases hle : m + 128 ≤ s.size
    · have hle' : (m : Int) + 128 ≤ (s.size : Int) := by omega
      have HT := Lib.hid (show (cutS s).take (k + 1) = (cutS s).take k ++ [s.extract m (m + 128)] from by rw [hm]; exact cutS_take s k (by omega))
      have hkk : k + 1 ≤ s.size / 128 := by omega
      clear hm hl0
      go_wp2_with (at_builtin; refine wpList_push rfl _ _ 50 rfl w.heap.size 9 1 16 _ Tryz.underlying50 info_str rfl (by decide) wr _ (((cutS s).take k).map strC) (strC (s.extract m (m + 128))) (by rfl) rfl rfl hown (by first | rfl | (simp; done)) rfl rfl (by rw [List.length_map]; omega) (by rw [List.length_map]; omega) hgs ?_; intro v' w5 hown5 hgr hbk hsz)
      go_roundg (s.size / 128 - (k + 1))
      case measure => rw [HGK.out]; omega
      case rel => exact ⟨k + 1, m + 128, by rw [HM.out]; omega, by omega, by omega, by go_num, by rw [HT.out, List.map_append]; exact hown5, hgr _ hg (Nat.le_refl _)⟩
    · have hle' : ¬ (m : Int) + 128 ≤ (s.size : Int) := by omega
      have HF := Lib.hid (show (cutS s).take k = cutS s from List.take_of_length_le (by rw [hl0]; omega))
      have HO := Lib.hid hown
      have HG := Lib.hid hg
      clear hm hl0 hown hg
      go_wp2_with fail
      go_ret
      exact ⟨_, rfl, by have := HO.out; rw [HF.out] at this; exact this, HG.out⟩
end Go.Proofs.YtnlaogneceanoaaGreat
