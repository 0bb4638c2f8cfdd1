/- Chapter 8: the reference's Valid. Chapter 8: the references of a table: their comparison, the sort by it. Chapter 8: the reference's Refs; SameRefs. Chapter 8: the reference's Sectors. Chapter 8: SameWrites for one list. Chapter 8: the reference's Changes. Chapter 8: what the sectors of a table say, plain. Chapter 8: what Load makes of sectors, plain. -/
import Derived.Shelf.SlSortCmp.NoneTotal
import Derived.Shelf.SlSortCmp.WholeK
import Derived.Test.YtnlaogneceanoaaGreatCxA
import Derived.Test.YtnlaogneceanoaaGreatCxB
import Derived.Test.YtnlaogneceanoaaGreatCxD
import Derived.Test.YtnlaogneceanoaaGreatCxE
import Derived.Test.YtnlaogneceanoaaGreatCxG
import Derived.Test.YtnlaogneceanoaaGreatCxH
namespace Go.Proofs.YtnlaogneceanoaaGreat
set_option linter.unusedVariables false
set_option linter.unusedSimpArgs false
set_option linter.unusedSectionVars false
open Go.RowKit
attribute [local go_sem ↓] Go.wp_at_zero Go.wp_at_succ
set_option maxRecDepth 100000 in
set_option maxHeartbeats 1000000 in
theorem rempty_any (B : Option Addr) (d : Nat) (l : Lab) (w : World) (h : LabAt w B d l) (hl : l.ext.length ≤ 1000) :
    Calls Tryz.prog 50 #[.agg #[.int .i64 l.id, .int .i64 l.unit, .string l.name, .string l.note, .slice B l.ext.length d]] w fun e w' => e = .returned (.bool (emL l)) ∧ Grew w w' := by
  have g0 := (Grew.refl w).alloc (.cells #[.int .i64 l.id, .int .i64 l.unit, .string l.name, .string l.note, .slice B l.ext.length d] 31)
  have HC := Lib.hid (requalZ_any B d l _ (h.hold g0) (by omega))
  have HG := Lib.hid g0
  have HE := Lib.hid (show emL l = eqL l labZ from rfl)
  clear h g0
  go_enter Tryz.func50, Tryz.ntmps50
  go_wp2_with fail
  refine HC.out.mono ?_
  rintro e w1 ⟨rfl, g1⟩
  go_wp2_with fail
  go_ret
  exact ⟨ret_bool (by rw [HE.out]), HG.out.trans g1⟩
/-- Two labels that a table must not have both. -/
def clash (m l : Lab) : Bool := (m.id == l.id) && ((m.unit == 0) == (l.unit == 0))
theorem clash_key (t : Int) (m l : Lab) (hm : okL t m = true) (hl : okL t l = true) (hle : emL l = false) (h : clash m l = true) : emL m = false ∧ keyL m = keyL l := by
  unfold clash at h
  simp only [Bool.and_eq_true, beq_iff_eq] at h
  obtain ⟨h1, h2⟩ := h
  have hu1 := (okL_ext m t hm).2
  have hu2 := (okL_ext l t hl).2
  have hlv : validL l t = true := by
    unfold okL at hl
    rw [hle] at hl
    simpa using hl
  have hid := (validL_ids l t hlv).1
  refine ⟨?_, ?_⟩
  · cases he : emL m with
    | false => rfl
    | true =>
      rw [(emL_iff m).1 he] at h1
      have : l.id = 0 := h1.symm
      omega
  · unfold keyL
    rw [h1]
    congr 1
    rw [decide_eq_decide]
    rcases Int.lt_or_eq_of_le hu1 with e1 | e1
    · rcases Int.lt_or_eq_of_le hu2 with e2 | e2
      · omega
      · rw [← e2] at h2
        simp at h2
        omega
    · rw [← e1] at h2
      simp at h2
      omega
theorem key_clash (t : Int) (m l : Lab) (hm : okL t m = true) (hl : okL t l = true) (h : keyL m = keyL l) : clash m l = true := by
  unfold keyL at h
  injection h with h1 h2
  have hu1 := (okL_ext m t hm).2
  have hu2 := (okL_ext l t hl).2
  rw [decide_eq_decide] at h2
  unfold clash
  rw [h1]
  simp only [beq_self_eq_true, Bool.true_and, beq_iff_eq]
  cases h3 : (m.unit == 0) <;> cases h4 : (l.unit == 0) <;> simp at h3 h4 ⊢ <;> omega
theorem keys_mem (ls : List Lab) (k : Nat) (a : Int × Bool) (h : a ∈ keysL (ls.take k)) : ∃ (j : Nat) (hj : j < ls.length), j < k ∧ emL ls[j] = false ∧ keyL ls[j] = a := by
  unfold keysL at h
  obtain ⟨l, hl, rfl⟩ := List.mem_map.1 h
  obtain ⟨h1, h2⟩ := List.mem_filter.1 hl
  obtain ⟨j, hj, rfl⟩ := List.getElem_of_mem h1
  have hj2 : j < k ∧ j < ls.length := by rw [List.length_take] at hj; omega
  refine ⟨j, hj2.2, hj2.1, ?_, ?_⟩
  · rw [List.getElem_take] at h2; simpa using h2
  · rw [List.getElem_take]
theorem keys_in (ls : List Lab) (k j : Nat) (hj : j < ls.length) (hjk : j < k) (he : emL ls[j] = false) : keyL ls[j] ∈ keysL (ls.take k) := by
  unfold keysL
  refine List.mem_map_of_mem (List.mem_filter.2 ⟨?_, by rw [he]; rfl⟩)
  exact List.mem_take_iff_getElem.2 ⟨j, by omega, rfl⟩
set_option maxRecDepth 100000 in
set_option maxHeartbeats 8000000 in
theorem used_tab (A : Option Addr) (c : Nat) (xs : List LabE) (T : Tab) (w : World) (h : TabAt w A c xs T) (hs : T.labels.length ≤ 1000 ∧ ∀ l ∈ T.labels, l.ext.length ≤ 16) :
    Calls Tryz.prog 53 #[.agg #[.string T.name, .int .i64 T.tracks, .slice A T.labels.length c]] w fun e w' => ∃ A1 c1, e = .returned (.slice A1 (extsL T.labels).length c1) ∧ RunsAt w' w'.heap.size A1 (extsL T.labels) ∧ Grew w w' := by
  obtain ⟨hlen, hex⟩ := hs
  have HTB := Lib.hid h
  have HEX := Lib.hid hex
  have hg0 := ((Grew.refl w).alloc (.cells #[.string T.name, .int .i64 T.tracks, .slice A T.labels.length c] 24)).alloc (.cells #[] 65)
  have hb0 := (Blk.new w 24 #[.string T.name, .int .i64 T.tracks, .slice A T.labels.length c] rfl).alloc (.cells #[] 65)
  have ho0 : OwnL ((w.alloc (.cells #[.string T.name, .int .i64 T.tracks, .slice A T.labels.length c] 24)).alloc (.cells #[] 65)) w.heap.size 65 2 (.slice (some ⟨w.heap.size + 1, 0, none⟩) 0 0) [] := OwnL.empty _ _ _ _ (by simp) (by simp)
  clear h hex
  go_enter Tryz.func53, Tryz.ntmps53
  go_wp2_with fail
  go_loopg [3, 4] T.labels.length (fun gk ov i wr => ∃ k : Nat, k ≤ T.labels.length ∧ gk = T.labels.length - k ∧ i = .int .i64 k ∧ OwnL wr w.heap.size 65 2 ov ((extsL (T.labels.take k)).map runC) ∧ Blk wr w.heap.size 24 #[.string T.name, .int .i64 T.tracks, .slice A T.labels.length c] ∧ (extsL (T.labels.take k)).length ≤ 16 * k ∧ Grew w wr)
  case atStart => exact ⟨0, by omega, by omega, rfl, ho0, hb0, by simp [extsL], hg0⟩
  case round =>
    obtain ⟨k, hk, hgk, rfl, hown, hb, hxl, hg⟩ := hrel
    have HGK := Lib.hid hgk
    have hgs := hg.size
    have x2 := hb.cell 2
    have hbl0 := hb.lt
    clear hgk hb0 hg0 ho0
    by_cases hlt : k < T.labels.length
    · obtain ⟨b, off, B, d, l, rfl, hbl, hxk, hv, hla, c0, c1, c2, c3, c4⟩ := (HTB.out.hold hg).at_ hlt
      have hle := HEX.out T.labels[k] (List.getElem_mem hlt)
      rw [hv] at hle
      have hes := extsL_snoc T.labels k hlt
      rw [hv] at hes
      have HES := Lib.hid hes
      have hr2 := hla.runs.2
      have hge := hown.row_ge
      have n3 := hown.ne_blk hb (by decide)
      have HG := Lib.hid hg
      have HB := Lib.hid hb
      clear hv hxk hla hes hb hg
      go_wp2_with (at_builtin; refine wpList_pushAll (by rfl) _ _ 29 rfl w.heap.size 65 2 16 _ Tryz.underlying29 info_run rfl (by decide) _ _ (l.ext.map runC) (by rfl) hown B l.ext.length _ (by rfl) (by rw [List.length_map]) (map_one_len _) hr2 (map_one_one _) (by rw [List.length_map]; omega) (by rw [List.length_map]; omega) hgs ?_; intro v1 w3 hown3 hgr3 hat3)
      have HO3 := Lib.hid hown3
      have HB3 := Lib.hid (HB.out.own hgr3 n3)
      have HG3 := Lib.hid (HG.out.own hgr3 hge (Nat.le_refl _))
      clear hown3 hgr3 hat3 hown hr2 n3 hge
      go_roundg (T.labels.length - (k + 1))
      case measure => rw [HGK.out]; omega
      case rel => exact ⟨k + 1, by omega, by omega, by go_num, by rw [HES.out, List.map_append]; exact HO3.out, HB3.out, by rw [HES.out, List.length_append]; omega, HG3.out⟩
    · have hkn : k = T.labels.length := by omega
      subst hkn
      rw [List.take_length] at hown hxl
      obtain ⟨Ar, cr, hvr, hlr, hcr, hrr⟩ := own_runsL hown (HTB.out.okruns)
      subst hvr
      have HR := Lib.hid hrr
      have HG := Lib.hid hg
      clear hown hrr hb hg
      go_wp2_with fail
      go_ret
      exact ⟨_, _, rfl, HR.out, HG.out⟩
set_option maxRecDepth 100000 in
set_option maxHeartbeats 16000000 in
theorem rvalid_tab (A : Option Addr) (c : Nat) (xs : List LabE) (T : Tab) (w : World) (h : TabAt w A c xs T) (hs : SmallT T) (n : Nat) (hn : n = T.labels.length) :
    Calls Tryz.prog 11 #[.agg #[.string T.name, .int .i64 T.tracks, .slice A n c]] w fun e w' => e = .returned (.bool (validT T)) ∧ Grew w w' := by
  subst hn
  have hnm := h.name
  have hlen := hs.len
  have ht0 := h.tr0
  have ht1 := h.tr1
  have HG0 := Lib.hid ((Grew.refl w).alloc (.cells #[.string T.name, .int .i64 T.tracks, .slice A T.labels.length c] 24))
  have HB0 := Lib.hid (Blk.new w 24 #[.string T.name, .int .i64 T.tracks, .slice A T.labels.length c] rfl)
  have HTB := Lib.hid h
  have HS := Lib.hid hs
  clear h hs
  cases hn : nameOk T.name with
  | false =>
    have HN := Lib.hid hn
    have HE := Lib.hid (validT_false_head T (by unfold headB; rw [hn]; simp))
    clear hn
    go_enter Tryz.func11, Tryz.ntmps11
    go_wp2_with fail
    refine wp_region_R [] (fun w' : World => w'.cell? ⟨w.heap.size, 0, none⟩ = some (.string T.name) ∧ w'.cell? ⟨w.heap.size, 1, none⟩ = some (.int .i64 T.tracks) ∧ w'.cell? ⟨w.heap.size, 2, none⟩ = some (.slice A T.labels.length c)) (by kernel_rfl) ?_
    have hS : (fun w' : World => w'.cell? ⟨w.heap.size, 0, none⟩ = some (.string T.name) ∧ w'.cell? ⟨w.heap.size, 1, none⟩ = some (.int .i64 T.tracks) ∧ w'.cell? ⟨w.heap.size, 2, none⟩ = some (.slice A T.labels.length c)) (w.alloc (.cells #[.string T.name, .int .i64 T.tracks, .slice A T.labels.length c] 24)).drew := ⟨HB0.out.drew.cell 0, HB0.out.drew.cell 1, HB0.out.drew.cell 2⟩
    refine wpAnyR_takeQ (i := 0) (v := ?_) (some 7) rfl rfl (by kernel_rfl) (by kernel_rfl) (by kernel_rfl) (by kernel_rfl) (fun _ _ _ h => h) (Or.inl ⟨by rfl, ?_⟩) ?_
    rotate_left
    focus (intro wS hSw; (try dsimp only at hSw); go_simp; (try with_reducible rfl); (try (first | (rw [if_pos (by omega)]; (try go_simp); (try with_reducible rfl)) | (rw [if_neg (by omega)]; (try go_simp); (try with_reducible rfl)))))
    try simp only [Act.put, zA, zB, zC]
    refine wpAnyR_take (i := 1) (v := ?_) [2, 3, 4, 5, 6, 7, 8, 9, 10, 11, 12, 13, 14, 15, 16, 17, 18] (some 8) rfl rfl (by kernel_rfl) (by kernel_rfl) (by kernel_rfl) (by kernel_rfl) (by kernel_rfl) (by kernel_rfl) (by kernel_rfl) (fun _ _ _ h => h) (Or.inl ⟨by rfl, ?_⟩) hS ?_
    rotate_left
    focus (intro wS hSw; (try dsimp only at hSw); go_simp; (try with_reducible rfl); (try (first | (rw [if_pos (by omega)]; (try go_simp); (try with_reducible rfl)) | (rw [if_neg (by omega)]; (try go_simp); (try with_reducible rfl)))))
    try simp only [Act.put, zA, zB, zC]
    refine wpAnyR_n1 (i := 2) rfl (by kernel_rfl) ?_
    intro K' hK
    rw [if_pos (by rfl)]
    simp only [List.getElem_toArray, List.getElem_cons_succ, List.getElem_cons_zero]
    go_wp2_with fail
    refine (rvalidName_any _ _ hnm).mono ?_
    rintro e w1 ⟨rfl, rfl⟩
    rw [HN.out]
    go_wp2_with fail
    refine hK.out _ _ (.inr (fun h => h)) ?_
    clear hK
    refine wpAnyR_takeQ (i := 3) (v := ?_) (some 10) rfl rfl (by kernel_rfl) (by kernel_rfl) (by kernel_rfl) (by kernel_rfl) (fun _ _ _ h => h) (Or.inl ⟨by rfl, ?_⟩) ?_
    rotate_left
    focus (intro wS hSw; (try dsimp only at hSw); go_simp; (try with_reducible rfl); (try (first | (rw [if_pos (by omega)]; (try go_simp); (try with_reducible rfl)) | (rw [if_neg (by omega)]; (try go_simp); (try with_reducible rfl)))))
    try simp only [Act.put, zA, zB, zC]
    refine wpAnyR_takeQ (i := 4) (v := ?_) (some 11) rfl rfl (by kernel_rfl) (by kernel_rfl) (by kernel_rfl) (by kernel_rfl) (fun _ _ _ h => h) (Or.inl ⟨by rfl, ?_⟩) ?_
    rotate_left
    focus (intro wS hSw; (try dsimp only at hSw); go_simp; (try with_reducible rfl); (try (first | (rw [if_pos (by omega)]; (try go_simp); (try with_reducible rfl)) | (rw [if_neg (by omega)]; (try go_simp); (try with_reducible rfl)))))
    try simp only [Act.put, zA, zB, zC]
    refine wpAnyR_takeQ (i := 5) (v := undef) (some 12) rfl rfl (by kernel_rfl) (by kernel_rfl) (by kernel_rfl) (by kernel_rfl) (fun _ _ _ h => h) (Or.inr ⟨by rfl, rfl⟩) ?_
    try simp only [Act.put, zA, zB, zC]
    refine wpAnyR_takeQ (i := 6) (v := undef) (some 13) rfl rfl (by kernel_rfl) (by kernel_rfl) (by kernel_rfl) (by kernel_rfl) (fun _ _ _ h => h) (Or.inr ⟨by rfl, rfl⟩) ?_
    try simp only [Act.put, zA, zB, zC]
    refine wpAnyR_takeQ (i := 7) (v := undef) (some 14) rfl rfl (by kernel_rfl) (by kernel_rfl) (by kernel_rfl) (by kernel_rfl) (fun _ _ _ h => h) (Or.inr ⟨by rfl, rfl⟩) ?_
    try simp only [Act.put, zA, zB, zC]
    refine wpAnyR_takeQ (i := 8) (v := undef) (some 15) rfl rfl (by kernel_rfl) (by kernel_rfl) (by kernel_rfl) (by kernel_rfl) (fun _ _ _ h => h) (Or.inr ⟨by rfl, rfl⟩) ?_
    try simp only [Act.put, zA, zB, zC]
    refine wpAnyR_takeQ (i := 9) (v := ?_) (some 16) rfl rfl (by kernel_rfl) (by kernel_rfl) (by kernel_rfl) (by kernel_rfl) (fun _ _ _ h => h) (Or.inl ⟨by rfl, ?_⟩) ?_
    rotate_left
    focus (intro wS hSw; (try dsimp only at hSw); go_simp; (try with_reducible rfl); (try (first | (rw [if_pos (by omega)]; (try go_simp); (try with_reducible rfl)) | (rw [if_neg (by omega)]; (try go_simp); (try with_reducible rfl)))))
    try simp only [Act.put, zA, zB, zC]
    refine wpAnyR_takeQ (i := 10) (v := ?_) (some 17) rfl rfl (by kernel_rfl) (by kernel_rfl) (by kernel_rfl) (by kernel_rfl) (fun _ _ _ h => h) (Or.inl ⟨by rfl, ?_⟩) ?_
    rotate_left
    focus (intro wS hSw; (try dsimp only at hSw); go_simp; (try with_reducible rfl); (try (first | (rw [if_pos (by omega)]; (try go_simp); (try with_reducible rfl)) | (rw [if_neg (by omega)]; (try go_simp); (try with_reducible rfl)))))
    try simp only [Act.put, zA, zB, zC]
    refine wpAnyR_takeQ (i := 11) (v := undef) (some 18) rfl rfl (by kernel_rfl) (by kernel_rfl) (by kernel_rfl) (by kernel_rfl) (fun _ _ _ h => h) (Or.inr ⟨by rfl, rfl⟩) ?_
    try simp only [Act.put, zA, zB, zC]
    refine wpAnyR_takeQ (i := 12) (v := undef) (some 19) rfl rfl (by kernel_rfl) (by kernel_rfl) (by kernel_rfl) (by kernel_rfl) (fun _ _ _ h => h) (Or.inr ⟨by rfl, rfl⟩) ?_
    try simp only [Act.put, zA, zB, zC]
    refine wpAnyR_takeQ (i := 13) (v := undef) (some 20) rfl rfl (by kernel_rfl) (by kernel_rfl) (by kernel_rfl) (by kernel_rfl) (fun _ _ _ h => h) (Or.inr ⟨by rfl, rfl⟩) ?_
    try simp only [Act.put, zA, zB, zC]
    refine wpAnyR_takeQ (i := 14) (v := undef) (some 21) rfl rfl (by kernel_rfl) (by kernel_rfl) (by kernel_rfl) (by kernel_rfl) (fun _ _ _ h => h) (Or.inr ⟨by rfl, rfl⟩) ?_
    try simp only [Act.put, zA, zB, zC]
    refine wpAnyR_takeQ (i := 15) (v := undef) (some 22) rfl rfl (by kernel_rfl) (by kernel_rfl) (by kernel_rfl) (by kernel_rfl) (fun _ _ _ h => h) (Or.inr ⟨by rfl, rfl⟩) ?_
    try simp only [Act.put, zA, zB, zC]
    refine wpAnyR_takeQ (i := 16) (v := undef) (some 23) rfl rfl (by kernel_rfl) (by kernel_rfl) (by kernel_rfl) (by kernel_rfl) (fun _ _ _ h => h) (Or.inr ⟨by rfl, rfl⟩) ?_
    try simp only [Act.put, zA, zB, zC]
    refine wpAnyR_takeQ (i := 17) (v := undef) (some 24) rfl rfl (by kernel_rfl) (by kernel_rfl) (by kernel_rfl) (by kernel_rfl) (fun _ _ _ h => h) (Or.inr ⟨by rfl, rfl⟩) ?_
    try simp only [Act.put, zA, zB, zC]
    refine wpAnyR_takeQ (i := 18) (v := ?_) (some 25) rfl rfl (by kernel_rfl) (by kernel_rfl) (by kernel_rfl) (by kernel_rfl) (fun _ _ _ h => h) (Or.inl ⟨by rfl, ?_⟩) ?_
    rotate_left
    focus (intro wS hSw; (try dsimp only at hSw); go_simp; (try with_reducible rfl); (try (first | (rw [if_pos (by omega)]; (try go_simp); (try with_reducible rfl)) | (rw [if_neg (by omega)]; (try go_simp); (try with_reducible rfl)))))
    try simp only [Act.put, zA, zB, zC]
    refine wpAnyR_done (by kernel_rfl) ?_ _
    go_wp2_with fail
    go_ret
    exact ⟨ret_bool (by rw [HE.out]), HG0.out.drew⟩
  | true =>
  have HN := Lib.hid hn
  clear hn
  by_cases hz : okT T.tracks = true
  rotate_left
  · have hz' : okT T.tracks = false := by simpa using hz
    have HE := Lib.hid (validT_false_head T (by unfold headB; rw [hz']; rfl))
    have HT0 := Lib.hid (show ttS T.tracks = 0 from by unfold ttS; rw [if_neg hz])
    clear hz hz'
    go_enter Tryz.func11, Tryz.ntmps11
    go_wp2_with fail
    refine wp_region_R [] (fun w' : World => w'.cell? ⟨w.heap.size, 0, none⟩ = some (.string T.name) ∧ w'.cell? ⟨w.heap.size, 1, none⟩ = some (.int .i64 T.tracks) ∧ w'.cell? ⟨w.heap.size, 2, none⟩ = some (.slice A T.labels.length c)) (by kernel_rfl) ?_
    have hS : (fun w' : World => w'.cell? ⟨w.heap.size, 0, none⟩ = some (.string T.name) ∧ w'.cell? ⟨w.heap.size, 1, none⟩ = some (.int .i64 T.tracks) ∧ w'.cell? ⟨w.heap.size, 2, none⟩ = some (.slice A T.labels.length c)) (w.alloc (.cells #[.string T.name, .int .i64 T.tracks, .slice A T.labels.length c] 24)).drew := ⟨HB0.out.drew.cell 0, HB0.out.drew.cell 1, HB0.out.drew.cell 2⟩
    refine wpAnyR_takeQ (i := 0) (v := ?_) (some 7) rfl rfl (by kernel_rfl) (by kernel_rfl) (by kernel_rfl) (by kernel_rfl) (fun _ _ _ h => h) (Or.inl ⟨by rfl, ?_⟩) ?_
    rotate_left
    focus (intro wS hSw; (try dsimp only at hSw); go_simp; (try with_reducible rfl); (try (first | (rw [if_pos (by omega)]; (try go_simp); (try with_reducible rfl)) | (rw [if_neg (by omega)]; (try go_simp); (try with_reducible rfl)))))
    try simp only [Act.put, zA, zB, zC]
    refine wpAnyR_take (i := 1) (v := ?_) [2, 3, 4, 5, 6, 7, 8, 9, 10, 11, 12, 13, 14, 15, 16, 17, 18] (some 8) rfl rfl (by kernel_rfl) (by kernel_rfl) (by kernel_rfl) (by kernel_rfl) (by kernel_rfl) (by kernel_rfl) (by kernel_rfl) (fun _ _ _ h => h) (Or.inl ⟨by rfl, ?_⟩) hS ?_
    rotate_left
    focus (intro wS hSw; (try dsimp only at hSw); go_simp; (try with_reducible rfl); (try (first | (rw [if_pos (by omega)]; (try go_simp); (try with_reducible rfl)) | (rw [if_neg (by omega)]; (try go_simp); (try with_reducible rfl)))))
    try simp only [Act.put, zA, zB, zC]
    refine wpAnyR_n1 (i := 2) rfl (by kernel_rfl) ?_
    intro K' hK
    rw [if_pos (by rfl)]
    simp only [List.getElem_toArray, List.getElem_cons_succ, List.getElem_cons_zero]
    go_wp2_with fail
    refine (rvalidName_any _ _ hnm).mono ?_
    rintro e w1 ⟨rfl, rfl⟩
    rw [HN.out]
    go_wp2_with fail
    refine hK.out _ _ (.inr (fun h => h)) ?_
    clear hK
    refine wpAnyR_takeQ (i := 3) (v := ?_) (some 10) rfl rfl (by kernel_rfl) (by kernel_rfl) (by kernel_rfl) (by kernel_rfl) (fun _ _ _ h => h) (Or.inl ⟨by rfl, ?_⟩) ?_
    rotate_left
    focus (intro wS hSw; (try dsimp only at hSw); go_simp; (try with_reducible rfl); (try (first | (rw [if_pos (by omega)]; (try go_simp); (try with_reducible rfl)) | (rw [if_neg (by omega)]; (try go_simp); (try with_reducible rfl)))))
    try simp only [Act.put, zA, zB, zC]
    refine wpAnyR_takeQ (i := 4) (v := ?_) (some 11) rfl rfl (by kernel_rfl) (by kernel_rfl) (by kernel_rfl) (by kernel_rfl) (fun _ _ _ h => h) (Or.inl ⟨by rfl, ?_⟩) ?_
    rotate_left
    focus (intro wS hSw; (try dsimp only at hSw); go_simp; (try with_reducible rfl); (try (first | (rw [if_pos (by omega)]; (try go_simp); (try with_reducible rfl)) | (rw [if_neg (by omega)]; (try go_simp); (try with_reducible rfl)))))
    try simp only [Act.put, zA, zB, zC]
    refine wpAnyR_takeQ (i := 5) (v := ?_) (some 12) rfl rfl (by kernel_rfl) (by kernel_rfl) (by kernel_rfl) (by kernel_rfl) (fun _ _ _ h => h) (Or.inl ⟨by rfl, ?_⟩) ?_
    rotate_left
    focus (intro wS hSw; (try dsimp only at hSw); go_simp; (try with_reducible rfl); (try (first | (rw [if_pos (by omega)]; (try go_simp); (try with_reducible rfl)) | (rw [if_neg (by omega)]; (try go_simp); (try with_reducible rfl)))))
    try simp only [Act.put, zA, zB, zC]
    refine wpAnyR_take (i := 6) (v := ?_) [7, 8, 9, 10, 11, 12, 13, 14, 15, 16, 17, 18] (some 13) rfl rfl (by kernel_rfl) (by kernel_rfl) (by kernel_rfl) (by kernel_rfl) (by kernel_rfl) (by kernel_rfl) (by kernel_rfl) (fun _ _ _ h => h) (Or.inl ⟨by rfl, ?_⟩) hS ?_
    rotate_left
    focus (intro wS hSw; (try dsimp only at hSw); go_simp; (try with_reducible rfl); (try (first | (rw [if_pos (by omega)]; (try go_simp); (try with_reducible rfl)) | (rw [if_neg (by omega)]; (try go_simp); (try with_reducible rfl)))))
    try simp only [Act.put, zA, zB, zC]
    refine wpAnyR_n1 (i := 7) rfl (by kernel_rfl) ?_
    intro K' hK
    rw [if_pos (by rfl)]
    simp only [List.getElem_toArray, List.getElem_cons_succ, List.getElem_cons_zero]
    go_wp2_with fail
    refine (rtable_any _ _).mono ?_
    rintro e w1 ⟨rfl, rfl⟩
    rw [HT0.out]
    go_wp2_with fail
    refine hK.out _ _ (.inr (fun h => h)) ?_
    clear hK
    refine wpAnyR_takeQ (i := 8) (v := ?_) (some 15) rfl rfl (by kernel_rfl) (by kernel_rfl) (by kernel_rfl) (by kernel_rfl) (fun _ _ _ h => h) (Or.inl ⟨by rfl, ?_⟩) ?_
    rotate_left
    focus (intro wS hSw; (try dsimp only at hSw); go_simp; (try with_reducible rfl); (try (first | (rw [if_pos (by omega)]; (try go_simp); (try with_reducible rfl)) | (rw [if_neg (by omega)]; (try go_simp); (try with_reducible rfl)))))
    try simp only [Act.put, zA, zB, zC]
    refine wpAnyR_takeQ (i := 9) (v := ?_) (some 16) rfl rfl (by kernel_rfl) (by kernel_rfl) (by kernel_rfl) (by kernel_rfl) (fun _ _ _ h => h) (Or.inl ⟨by rfl, ?_⟩) ?_
    rotate_left
    focus (intro wS hSw; (try dsimp only at hSw); go_simp; (try with_reducible rfl); (try (first | (rw [if_pos (by omega)]; (try go_simp); (try with_reducible rfl)) | (rw [if_neg (by omega)]; (try go_simp); (try with_reducible rfl)))))
    try simp only [Act.put, zA, zB, zC]
    refine wpAnyR_takeQ (i := 10) (v := ?_) (some 17) rfl rfl (by kernel_rfl) (by kernel_rfl) (by kernel_rfl) (by kernel_rfl) (fun _ _ _ h => h) (Or.inl ⟨by rfl, ?_⟩) ?_
    rotate_left
    focus (intro wS hSw; (try dsimp only at hSw); go_simp; (try with_reducible rfl); (try (first | (rw [if_pos (by omega)]; (try go_simp); (try with_reducible rfl)) | (rw [if_neg (by omega)]; (try go_simp); (try with_reducible rfl)))))
    try simp only [Act.put, zA, zB, zC]
    refine wpAnyR_takeQ (i := 11) (v := undef) (some 18) rfl rfl (by kernel_rfl) (by kernel_rfl) (by kernel_rfl) (by kernel_rfl) (fun _ _ _ h => h) (Or.inr ⟨by rfl, rfl⟩) ?_
    try simp only [Act.put, zA, zB, zC]
    refine wpAnyR_takeQ (i := 12) (v := undef) (some 19) rfl rfl (by kernel_rfl) (by kernel_rfl) (by kernel_rfl) (by kernel_rfl) (fun _ _ _ h => h) (Or.inr ⟨by rfl, rfl⟩) ?_
    try simp only [Act.put, zA, zB, zC]
    refine wpAnyR_takeQ (i := 13) (v := undef) (some 20) rfl rfl (by kernel_rfl) (by kernel_rfl) (by kernel_rfl) (by kernel_rfl) (fun _ _ _ h => h) (Or.inr ⟨by rfl, rfl⟩) ?_
    try simp only [Act.put, zA, zB, zC]
    refine wpAnyR_takeQ (i := 14) (v := undef) (some 21) rfl rfl (by kernel_rfl) (by kernel_rfl) (by kernel_rfl) (by kernel_rfl) (fun _ _ _ h => h) (Or.inr ⟨by rfl, rfl⟩) ?_
    try simp only [Act.put, zA, zB, zC]
    refine wpAnyR_takeQ (i := 15) (v := undef) (some 22) rfl rfl (by kernel_rfl) (by kernel_rfl) (by kernel_rfl) (by kernel_rfl) (fun _ _ _ h => h) (Or.inr ⟨by rfl, rfl⟩) ?_
    try simp only [Act.put, zA, zB, zC]
    refine wpAnyR_takeQ (i := 16) (v := undef) (some 23) rfl rfl (by kernel_rfl) (by kernel_rfl) (by kernel_rfl) (by kernel_rfl) (fun _ _ _ h => h) (Or.inr ⟨by rfl, rfl⟩) ?_
    try simp only [Act.put, zA, zB, zC]
    refine wpAnyR_takeQ (i := 17) (v := undef) (some 24) rfl rfl (by kernel_rfl) (by kernel_rfl) (by kernel_rfl) (by kernel_rfl) (fun _ _ _ h => h) (Or.inr ⟨by rfl, rfl⟩) ?_
    try simp only [Act.put, zA, zB, zC]
    refine wpAnyR_takeQ (i := 18) (v := ?_) (some 25) rfl rfl (by kernel_rfl) (by kernel_rfl) (by kernel_rfl) (by kernel_rfl) (fun _ _ _ h => h) (Or.inl ⟨by rfl, ?_⟩) ?_
    rotate_left
    focus (intro wS hSw; (try dsimp only at hSw); go_simp; (try with_reducible rfl); (try (first | (rw [if_pos (by omega)]; (try go_simp); (try with_reducible rfl)) | (rw [if_neg (by omega)]; (try go_simp); (try with_reducible rfl)))))
    try simp only [Act.put, zA, zB, zC]
    refine wpAnyR_done (by kernel_rfl) ?_ _
    go_wp2_with fail
    go_ret
    exact ⟨ret_bool (by rw [HE.out]), HG0.out.drew⟩
  obtain ⟨tt, htt⟩ : ∃ tt, ttS T.tracks = tt := ⟨_, rfl⟩
  have HT0 := Lib.hid htt
  have HZ := Lib.hid (show (tt == 0) = false from by
    rw [beq_eq_false_iff_ne, ← htt]
    unfold ttS
    have := okT_true hz
    rw [if_pos hz]
    omega)
  have HOK := Lib.hid hz
  clear hz htt
  obtain ⟨sl, hsl⟩ : ∃ sl, slotsS T.tracks = sl := ⟨_, rfl⟩
  have HL0 := Lib.hid hsl
  by_cases hl : (T.labels.length : Int) = sl
  rotate_left
  · have HL := Lib.hid (show ((T.labels.length : Int) != sl) = true from by rw [bne_iff_ne]; exact hl)
    have HE := Lib.hid (validT_false_head T (by unfold headB; rw [hsl, decide_eq_false hl]; simp))
    clear hl hsl
    go_enter Tryz.func11, Tryz.ntmps11
    go_wp2_with fail
    refine wp_region_R [] (fun w' : World => w'.cell? ⟨w.heap.size, 0, none⟩ = some (.string T.name) ∧ w'.cell? ⟨w.heap.size, 1, none⟩ = some (.int .i64 T.tracks) ∧ w'.cell? ⟨w.heap.size, 2, none⟩ = some (.slice A T.labels.length c)) (by kernel_rfl) ?_
    have hS : (fun w' : World => w'.cell? ⟨w.heap.size, 0, none⟩ = some (.string T.name) ∧ w'.cell? ⟨w.heap.size, 1, none⟩ = some (.int .i64 T.tracks) ∧ w'.cell? ⟨w.heap.size, 2, none⟩ = some (.slice A T.labels.length c)) (w.alloc (.cells #[.string T.name, .int .i64 T.tracks, .slice A T.labels.length c] 24)).drew := ⟨HB0.out.drew.cell 0, HB0.out.drew.cell 1, HB0.out.drew.cell 2⟩
    refine wpAnyR_takeQ (i := 0) (v := ?_) (some 7) rfl rfl (by kernel_rfl) (by kernel_rfl) (by kernel_rfl) (by kernel_rfl) (fun _ _ _ h => h) (Or.inl ⟨by rfl, ?_⟩) ?_
    rotate_left
    focus (intro wS hSw; (try dsimp only at hSw); go_simp; (try with_reducible rfl); (try (first | (rw [if_pos (by omega)]; (try go_simp); (try with_reducible rfl)) | (rw [if_neg (by omega)]; (try go_simp); (try with_reducible rfl)))))
    try simp only [Act.put, zA, zB, zC]
    refine wpAnyR_take (i := 1) (v := ?_) [2, 3, 4, 5, 6, 7, 8, 9, 10, 11, 12, 13, 14, 15, 16, 17, 18] (some 8) rfl rfl (by kernel_rfl) (by kernel_rfl) (by kernel_rfl) (by kernel_rfl) (by kernel_rfl) (by kernel_rfl) (by kernel_rfl) (fun _ _ _ h => h) (Or.inl ⟨by rfl, ?_⟩) hS ?_
    rotate_left
    focus (intro wS hSw; (try dsimp only at hSw); go_simp; (try with_reducible rfl); (try (first | (rw [if_pos (by omega)]; (try go_simp); (try with_reducible rfl)) | (rw [if_neg (by omega)]; (try go_simp); (try with_reducible rfl)))))
    try simp only [Act.put, zA, zB, zC]
    refine wpAnyR_n1 (i := 2) rfl (by kernel_rfl) ?_
    intro K' hK
    rw [if_pos (by rfl)]
    simp only [List.getElem_toArray, List.getElem_cons_succ, List.getElem_cons_zero]
    go_wp2_with fail
    refine (rvalidName_any _ _ hnm).mono ?_
    rintro e w1 ⟨rfl, rfl⟩
    rw [HN.out]
    go_wp2_with fail
    refine hK.out _ _ (.inr (fun h => h)) ?_
    clear hK
    refine wpAnyR_takeQ (i := 3) (v := ?_) (some 10) rfl rfl (by kernel_rfl) (by kernel_rfl) (by kernel_rfl) (by kernel_rfl) (fun _ _ _ h => h) (Or.inl ⟨by rfl, ?_⟩) ?_
    rotate_left
    focus (intro wS hSw; (try dsimp only at hSw); go_simp; (try with_reducible rfl); (try (first | (rw [if_pos (by omega)]; (try go_simp); (try with_reducible rfl)) | (rw [if_neg (by omega)]; (try go_simp); (try with_reducible rfl)))))
    try simp only [Act.put, zA, zB, zC]
    refine wpAnyR_takeQ (i := 4) (v := ?_) (some 11) rfl rfl (by kernel_rfl) (by kernel_rfl) (by kernel_rfl) (by kernel_rfl) (fun _ _ _ h => h) (Or.inl ⟨by rfl, ?_⟩) ?_
    rotate_left
    focus (intro wS hSw; (try dsimp only at hSw); go_simp; (try with_reducible rfl); (try (first | (rw [if_pos (by omega)]; (try go_simp); (try with_reducible rfl)) | (rw [if_neg (by omega)]; (try go_simp); (try with_reducible rfl)))))
    try simp only [Act.put, zA, zB, zC]
    refine wpAnyR_takeQ (i := 5) (v := ?_) (some 12) rfl rfl (by kernel_rfl) (by kernel_rfl) (by kernel_rfl) (by kernel_rfl) (fun _ _ _ h => h) (Or.inl ⟨by rfl, ?_⟩) ?_
    rotate_left
    focus (intro wS hSw; (try dsimp only at hSw); go_simp; (try with_reducible rfl); (try (first | (rw [if_pos (by omega)]; (try go_simp); (try with_reducible rfl)) | (rw [if_neg (by omega)]; (try go_simp); (try with_reducible rfl)))))
    try simp only [Act.put, zA, zB, zC]
    refine wpAnyR_take (i := 6) (v := ?_) [7, 8, 9, 10, 11, 12, 13, 14, 15, 16, 17, 18] (some 13) rfl rfl (by kernel_rfl) (by kernel_rfl) (by kernel_rfl) (by kernel_rfl) (by kernel_rfl) (by kernel_rfl) (by kernel_rfl) (fun _ _ _ h => h) (Or.inl ⟨by rfl, ?_⟩) hS ?_
    rotate_left
    focus (intro wS hSw; (try dsimp only at hSw); go_simp; (try with_reducible rfl); (try (first | (rw [if_pos (by omega)]; (try go_simp); (try with_reducible rfl)) | (rw [if_neg (by omega)]; (try go_simp); (try with_reducible rfl)))))
    try simp only [Act.put, zA, zB, zC]
    refine wpAnyR_n1 (i := 7) rfl (by kernel_rfl) ?_
    intro K' hK
    rw [if_pos (by rfl)]
    simp only [List.getElem_toArray, List.getElem_cons_succ, List.getElem_cons_zero]
    go_wp2_with fail
    refine (rtable_any _ _).mono ?_
    rintro e w1 ⟨rfl, rfl⟩
    rw [HT0.out]
    go_wp2_with fail
    refine hK.out _ _ (.inr (fun h => h)) ?_
    clear hK
    refine wpAnyR_takeQ (i := 8) (v := ?_) (some 15) rfl rfl (by kernel_rfl) (by kernel_rfl) (by kernel_rfl) (by kernel_rfl) (fun _ _ _ h => h) (Or.inl ⟨by rfl, ?_⟩) ?_
    rotate_left
    focus (intro wS hSw; (try dsimp only at hSw); go_simp; (try with_reducible rfl); (try (first | (rw [if_pos (by omega)]; (try go_simp); (try with_reducible rfl)) | (rw [if_neg (by omega)]; (try go_simp); (try with_reducible rfl)))))
    try simp only [Act.put, zA, zB, zC]
    rw [HZ.out]
    refine wpAnyR_takeQ (i := 9) (v := ?_) (some 16) rfl rfl (by kernel_rfl) (by kernel_rfl) (by kernel_rfl) (by kernel_rfl) (fun _ _ _ h => h) (Or.inl ⟨by rfl, ?_⟩) ?_
    rotate_left
    focus (intro wS hSw; (try dsimp only at hSw); go_simp; (try with_reducible rfl); (try (first | (rw [if_pos (by omega)]; (try go_simp); (try with_reducible rfl)) | (rw [if_neg (by omega)]; (try go_simp); (try with_reducible rfl)))))
    try simp only [Act.put, zA, zB, zC]
    refine wpAnyR_takeQ (i := 10) (v := ?_) (some 17) rfl rfl (by kernel_rfl) (by kernel_rfl) (by kernel_rfl) (by kernel_rfl) (fun _ _ _ h => h) (Or.inl ⟨by rfl, ?_⟩) ?_
    rotate_left
    focus (intro wS hSw; (try dsimp only at hSw); go_simp; (try with_reducible rfl); (try (first | (rw [if_pos (by omega)]; (try go_simp); (try with_reducible rfl)) | (rw [if_neg (by omega)]; (try go_simp); (try with_reducible rfl)))))
    try simp only [Act.put, zA, zB, zC]
    refine wpAnyR_takeQ (i := 11) (v := ?_) (some 18) rfl rfl (by kernel_rfl) (by kernel_rfl) (by kernel_rfl) (by kernel_rfl) (fun _ _ _ h => h) (Or.inl ⟨by rfl, ?_⟩) ?_
    rotate_left
    focus (intro wS hSw; (try dsimp only at hSw); go_simp; (try with_reducible rfl); (try (first | (rw [if_pos (by omega)]; (try go_simp); (try with_reducible rfl)) | (rw [if_neg (by omega)]; (try go_simp); (try with_reducible rfl)))))
    try simp only [Act.put, zA, zB, zC]
    refine wpAnyR_take (i := 12) (v := ?_) [13, 17, 18] (some 19) rfl rfl (by kernel_rfl) (by kernel_rfl) (by kernel_rfl) (by kernel_rfl) (by kernel_rfl) (by kernel_rfl) (by kernel_rfl) (fun _ _ _ h => h) (Or.inl ⟨by rfl, ?_⟩) hS ?_
    rotate_left
    focus (intro wS hSw; (try dsimp only at hSw); go_simp; (try with_reducible rfl); (try (first | (rw [if_pos (by omega)]; (try go_simp); (try with_reducible rfl)) | (rw [if_neg (by omega)]; (try go_simp); (try with_reducible rfl)))))
    try simp only [Act.put, zA, zB, zC]
    refine wpAnyR_take (i := 13) (v := ?_) [17, 18] (some 20) rfl rfl (by kernel_rfl) (by kernel_rfl) (by kernel_rfl) (by kernel_rfl) (by kernel_rfl) (by kernel_rfl) (by kernel_rfl) (fun _ _ _ h => h) (Or.inl ⟨by rfl, ?_⟩) hS ?_
    rotate_left
    focus (intro wS hSw; (try dsimp only at hSw); go_simp; (try with_reducible rfl); (try (first | (rw [if_pos (by omega)]; (try go_simp); (try with_reducible rfl)) | (rw [if_neg (by omega)]; (try go_simp); (try with_reducible rfl)))))
    try simp only [Act.put, zA, zB, zC]
    refine wpAnyR_takeQ (i := 14) (v := ?_) (some 21) rfl rfl (by kernel_rfl) (by kernel_rfl) (by kernel_rfl) (by kernel_rfl) (fun _ _ _ h => h) (Or.inl ⟨by rfl, ?_⟩) ?_
    rotate_left
    focus (intro wS hSw; (try dsimp only at hSw); go_simp; (try with_reducible rfl); (try (first | (rw [if_pos (by omega)]; (try go_simp); (try with_reducible rfl)) | (rw [if_neg (by omega)]; (try go_simp); (try with_reducible rfl)))))
    try simp only [Act.put, zA, zB, zC]
    refine wpAnyR_take (i := 15) (v := ?_) [16, 17, 18] (some 22) rfl rfl (by kernel_rfl) (by kernel_rfl) (by kernel_rfl) (by kernel_rfl) (by kernel_rfl) (by kernel_rfl) (by kernel_rfl) (fun _ _ _ h => h) (Or.inl ⟨by rfl, ?_⟩) hS ?_
    rotate_left
    focus (intro wS hSw; (try dsimp only at hSw); go_simp; (try with_reducible rfl); (try (first | (rw [if_pos (by omega)]; (try go_simp); (try with_reducible rfl)) | (rw [if_neg (by omega)]; (try go_simp); (try with_reducible rfl)))))
    try simp only [Act.put, zA, zB, zC]
    refine wpAnyR_n1 (i := 16) rfl (by kernel_rfl) ?_
    intro K' hK
    rw [if_pos (by rfl)]
    simp only [List.getElem_toArray, List.getElem_cons_succ, List.getElem_cons_zero]
    go_wp2_with fail
    refine (rslots_any _ _).mono ?_
    rintro e w1 ⟨rfl, rfl⟩
    rw [HL0.out]
    go_wp2_with fail
    refine hK.out _ _ (.inr (fun h => h)) ?_
    clear hK
    refine wpAnyR_takeQ (i := 17) (v := ?_) (some 24) rfl rfl (by kernel_rfl) (by kernel_rfl) (by kernel_rfl) (by kernel_rfl) (fun _ _ _ h => h) (Or.inl ⟨by rfl, ?_⟩) ?_
    rotate_left
    focus (intro wS hSw; (try dsimp only at hSw); go_simp; (try with_reducible rfl); (try (first | (rw [if_pos (by omega)]; (try go_simp); (try with_reducible rfl)) | (rw [if_neg (by omega)]; (try go_simp); (try with_reducible rfl)))))
    try simp only [Act.put, zA, zB, zC]
    rw [HL.out]
    refine wpAnyR_takeQ (i := 18) (v := ?_) (some 25) rfl rfl (by kernel_rfl) (by kernel_rfl) (by kernel_rfl) (by kernel_rfl) (fun _ _ _ h => h) (Or.inl ⟨by rfl, ?_⟩) ?_
    rotate_left
    focus (intro wS hSw; (try dsimp only at hSw); go_simp; (try with_reducible rfl); (try (first | (rw [if_pos (by omega)]; (try go_simp); (try with_reducible rfl)) | (rw [if_neg (by omega)]; (try go_simp); (try with_reducible rfl)))))
    try simp only [Act.put, zA, zB, zC]
    refine wpAnyR_done (by kernel_rfl) ?_ _
    go_wp2_with fail
    go_ret
    exact ⟨ret_bool (by rw [HE.out]), HG0.out.drew⟩
  have HL := Lib.hid (show ((T.labels.length : Int) != sl) = false from by rw [bne_eq_false_iff_eq]; exact hl)
  have h31 : T.labels.length ≤ 31 := by
    have h1 := ttS_bd T.tracks
    unfold slotsS at hsl
    omega
  have HHD := Lib.hid (show headB T = true from by unfold headB; rw [HOK.out, HN.out, hsl, decide_eq_true hl]; rfl)
  clear hl hsl
  go_enter Tryz.func11, Tryz.ntmps11
  go_wp2_with fail
  refine wp_region_R [] (fun w' : World => w'.cell? ⟨w.heap.size, 0, none⟩ = some (.string T.name) ∧ w'.cell? ⟨w.heap.size, 1, none⟩ = some (.int .i64 T.tracks) ∧ w'.cell? ⟨w.heap.size, 2, none⟩ = some (.slice A T.labels.length c)) (by kernel_rfl) ?_
  have hS : (fun w' : World => w'.cell? ⟨w.heap.size, 0, none⟩ = some (.string T.name) ∧ w'.cell? ⟨w.heap.size, 1, none⟩ = some (.int .i64 T.tracks) ∧ w'.cell? ⟨w.heap.size, 2, none⟩ = some (.slice A T.labels.length c)) (w.alloc (.cells #[.string T.name, .int .i64 T.tracks, .slice A T.labels.length c] 24)).drew := ⟨HB0.out.drew.cell 0, HB0.out.drew.cell 1, HB0.out.drew.cell 2⟩
  refine wpAnyR_takeQ (i := 0) (v := ?_) (some 7) rfl rfl (by kernel_rfl) (by kernel_rfl) (by kernel_rfl) (by kernel_rfl) (fun _ _ _ h => h) (Or.inl ⟨by rfl, ?_⟩) ?_
  rotate_left
  focus (intro wS hSw; (try dsimp only at hSw); go_simp; (try with_reducible rfl); (try (first | (rw [if_pos (by omega)]; (try go_simp); (try with_reducible rfl)) | (rw [if_neg (by omega)]; (try go_simp); (try with_reducible rfl)))))
  try simp only [Act.put, zA, zB, zC]
  refine wpAnyR_take (i := 1) (v := ?_) [2, 3, 4, 5, 6, 7, 8, 9, 10, 11, 12, 13, 14, 15, 16, 17, 18] (some 8) rfl rfl (by kernel_rfl) (by kernel_rfl) (by kernel_rfl) (by kernel_rfl) (by kernel_rfl) (by kernel_rfl) (by kernel_rfl) (fun _ _ _ h => h) (Or.inl ⟨by rfl, ?_⟩) hS ?_
  rotate_left
  focus (intro wS hSw; (try dsimp only at hSw); go_simp; (try with_reducible rfl); (try (first | (rw [if_pos (by omega)]; (try go_simp); (try with_reducible rfl)) | (rw [if_neg (by omega)]; (try go_simp); (try with_reducible rfl)))))
  try simp only [Act.put, zA, zB, zC]
  refine wpAnyR_n1 (i := 2) rfl (by kernel_rfl) ?_
  intro K' hK
  rw [if_pos (by rfl)]
  simp only [List.getElem_toArray, List.getElem_cons_succ, List.getElem_cons_zero]
  go_wp2_with fail
  refine (rvalidName_any _ _ hnm).mono ?_
  rintro e w1 ⟨rfl, rfl⟩
  rw [HN.out]
  go_wp2_with fail
  refine hK.out _ _ (.inr (fun h => h)) ?_
  clear hK
  refine wpAnyR_takeQ (i := 3) (v := ?_) (some 10) rfl rfl (by kernel_rfl) (by kernel_rfl) (by kernel_rfl) (by kernel_rfl) (fun _ _ _ h => h) (Or.inl ⟨by rfl, ?_⟩) ?_
  rotate_left
  focus (intro wS hSw; (try dsimp only at hSw); go_simp; (try with_reducible rfl); (try (first | (rw [if_pos (by omega)]; (try go_simp); (try with_reducible rfl)) | (rw [if_neg (by omega)]; (try go_simp); (try with_reducible rfl)))))
  try simp only [Act.put, zA, zB, zC]
  refine wpAnyR_takeQ (i := 4) (v := ?_) (some 11) rfl rfl (by kernel_rfl) (by kernel_rfl) (by kernel_rfl) (by kernel_rfl) (fun _ _ _ h => h) (Or.inl ⟨by rfl, ?_⟩) ?_
  rotate_left
  focus (intro wS hSw; (try dsimp only at hSw); go_simp; (try with_reducible rfl); (try (first | (rw [if_pos (by omega)]; (try go_simp); (try with_reducible rfl)) | (rw [if_neg (by omega)]; (try go_simp); (try with_reducible rfl)))))
  try simp only [Act.put, zA, zB, zC]
  refine wpAnyR_takeQ (i := 5) (v := ?_) (some 12) rfl rfl (by kernel_rfl) (by kernel_rfl) (by kernel_rfl) (by kernel_rfl) (fun _ _ _ h => h) (Or.inl ⟨by rfl, ?_⟩) ?_
  rotate_left
  focus (intro wS hSw; (try dsimp only at hSw); go_simp; (try with_reducible rfl); (try (first | (rw [if_pos (by omega)]; (try go_simp); (try with_reducible rfl)) | (rw [if_neg (by omega)]; (try go_simp); (try with_reducible rfl)))))
  try simp only [Act.put, zA, zB, zC]
  refine wpAnyR_take (i := 6) (v := ?_) [7, 8, 9, 10, 11, 12, 13, 14, 15, 16, 17, 18] (some 13) rfl rfl (by kernel_rfl) (by kernel_rfl) (by kernel_rfl) (by kernel_rfl) (by kernel_rfl) (by kernel_rfl) (by kernel_rfl) (fun _ _ _ h => h) (Or.inl ⟨by rfl, ?_⟩) hS ?_
  rotate_left
  focus (intro wS hSw; (try dsimp only at hSw); go_simp; (try with_reducible rfl); (try (first | (rw [if_pos (by omega)]; (try go_simp); (try with_reducible rfl)) | (rw [if_neg (by omega)]; (try go_simp); (try with_reducible rfl)))))
  try simp only [Act.put, zA, zB, zC]
  refine wpAnyR_n1 (i := 7) rfl (by kernel_rfl) ?_
  intro K' hK
  rw [if_pos (by rfl)]
  simp only [List.getElem_toArray, List.getElem_cons_succ, List.getElem_cons_zero]
  go_wp2_with fail
  refine (rtable_any _ _).mono ?_
  rintro e w1 ⟨rfl, rfl⟩
  rw [HT0.out]
  go_wp2_with fail
  refine hK.out _ _ (.inr (fun h => h)) ?_
  clear hK
  refine wpAnyR_takeQ (i := 8) (v := ?_) (some 15) rfl rfl (by kernel_rfl) (by kernel_rfl) (by kernel_rfl) (by kernel_rfl) (fun _ _ _ h => h) (Or.inl ⟨by rfl, ?_⟩) ?_
  rotate_left
  focus (intro wS hSw; (try dsimp only at hSw); go_simp; (try with_reducible rfl); (try (first | (rw [if_pos (by omega)]; (try go_simp); (try with_reducible rfl)) | (rw [if_neg (by omega)]; (try go_simp); (try with_reducible rfl)))))
  try simp only [Act.put, zA, zB, zC]
  rw [HZ.out]
  refine wpAnyR_takeQ (i := 9) (v := ?_) (some 16) rfl rfl (by kernel_rfl) (by kernel_rfl) (by kernel_rfl) (by kernel_rfl) (fun _ _ _ h => h) (Or.inl ⟨by rfl, ?_⟩) ?_
  rotate_left
  focus (intro wS hSw; (try dsimp only at hSw); go_simp; (try with_reducible rfl); (try (first | (rw [if_pos (by omega)]; (try go_simp); (try with_reducible rfl)) | (rw [if_neg (by omega)]; (try go_simp); (try with_reducible rfl)))))
  try simp only [Act.put, zA, zB, zC]
  refine wpAnyR_takeQ (i := 10) (v := ?_) (some 17) rfl rfl (by kernel_rfl) (by kernel_rfl) (by kernel_rfl) (by kernel_rfl) (fun _ _ _ h => h) (Or.inl ⟨by rfl, ?_⟩) ?_
  rotate_left
  focus (intro wS hSw; (try dsimp only at hSw); go_simp; (try with_reducible rfl); (try (first | (rw [if_pos (by omega)]; (try go_simp); (try with_reducible rfl)) | (rw [if_neg (by omega)]; (try go_simp); (try with_reducible rfl)))))
  try simp only [Act.put, zA, zB, zC]
  refine wpAnyR_takeQ (i := 11) (v := ?_) (some 18) rfl rfl (by kernel_rfl) (by kernel_rfl) (by kernel_rfl) (by kernel_rfl) (fun _ _ _ h => h) (Or.inl ⟨by rfl, ?_⟩) ?_
  rotate_left
  focus (intro wS hSw; (try dsimp only at hSw); go_simp; (try with_reducible rfl); (try (first | (rw [if_pos (by omega)]; (try go_simp); (try with_reducible rfl)) | (rw [if_neg (by omega)]; (try go_simp); (try with_reducible rfl)))))
  try simp only [Act.put, zA, zB, zC]
  refine wpAnyR_take (i := 12) (v := ?_) [13, 17, 18] (some 19) rfl rfl (by kernel_rfl) (by kernel_rfl) (by kernel_rfl) (by kernel_rfl) (by kernel_rfl) (by kernel_rfl) (by kernel_rfl) (fun _ _ _ h => h) (Or.inl ⟨by rfl, ?_⟩) hS ?_
  rotate_left
  focus (intro wS hSw; (try dsimp only at hSw); go_simp; (try with_reducible rfl); (try (first | (rw [if_pos (by omega)]; (try go_simp); (try with_reducible rfl)) | (rw [if_neg (by omega)]; (try go_simp); (try with_reducible rfl)))))
  try simp only [Act.put, zA, zB, zC]
  refine wpAnyR_take (i := 13) (v := ?_) [17, 18] (some 20) rfl rfl (by kernel_rfl) (by kernel_rfl) (by kernel_rfl) (by kernel_rfl) (by kernel_rfl) (by kernel_rfl) (by kernel_rfl) (fun _ _ _ h => h) (Or.inl ⟨by rfl, ?_⟩) hS ?_
  rotate_left
  focus (intro wS hSw; (try dsimp only at hSw); go_simp; (try with_reducible rfl); (try (first | (rw [if_pos (by omega)]; (try go_simp); (try with_reducible rfl)) | (rw [if_neg (by omega)]; (try go_simp); (try with_reducible rfl)))))
  try simp only [Act.put, zA, zB, zC]
  refine wpAnyR_takeQ (i := 14) (v := ?_) (some 21) rfl rfl (by kernel_rfl) (by kernel_rfl) (by kernel_rfl) (by kernel_rfl) (fun _ _ _ h => h) (Or.inl ⟨by rfl, ?_⟩) ?_
  rotate_left
  focus (intro wS hSw; (try dsimp only at hSw); go_simp; (try with_reducible rfl); (try (first | (rw [if_pos (by omega)]; (try go_simp); (try with_reducible rfl)) | (rw [if_neg (by omega)]; (try go_simp); (try with_reducible rfl)))))
  try simp only [Act.put, zA, zB, zC]
  refine wpAnyR_take (i := 15) (v := ?_) [16, 17, 18] (some 22) rfl rfl (by kernel_rfl) (by kernel_rfl) (by kernel_rfl) (by kernel_rfl) (by kernel_rfl) (by kernel_rfl) (by kernel_rfl) (fun _ _ _ h => h) (Or.inl ⟨by rfl, ?_⟩) hS ?_
  rotate_left
  focus (intro wS hSw; (try dsimp only at hSw); go_simp; (try with_reducible rfl); (try (first | (rw [if_pos (by omega)]; (try go_simp); (try with_reducible rfl)) | (rw [if_neg (by omega)]; (try go_simp); (try with_reducible rfl)))))
  try simp only [Act.put, zA, zB, zC]
  refine wpAnyR_n1 (i := 16) rfl (by kernel_rfl) ?_
  intro K' hK
  rw [if_pos (by rfl)]
  simp only [List.getElem_toArray, List.getElem_cons_succ, List.getElem_cons_zero]
  go_wp2_with fail
  refine (rslots_any _ _).mono ?_
  rintro e w1 ⟨rfl, rfl⟩
  rw [HL0.out]
  go_wp2_with fail
  refine hK.out _ _ (.inr (fun h => h)) ?_
  clear hK
  refine wpAnyR_takeQ (i := 17) (v := ?_) (some 24) rfl rfl (by kernel_rfl) (by kernel_rfl) (by kernel_rfl) (by kernel_rfl) (fun _ _ _ h => h) (Or.inl ⟨by rfl, ?_⟩) ?_
  rotate_left
  focus (intro wS hSw; (try dsimp only at hSw); go_simp; (try with_reducible rfl); (try (first | (rw [if_pos (by omega)]; (try go_simp); (try with_reducible rfl)) | (rw [if_neg (by omega)]; (try go_simp); (try with_reducible rfl)))))
  try simp only [Act.put, zA, zB, zC]
  rw [HL.out]
  refine wpAnyR_takeQ (i := 18) (v := ?_) (some 25) rfl rfl (by kernel_rfl) (by kernel_rfl) (by kernel_rfl) (by kernel_rfl) (fun _ _ _ h => h) (Or.inl ⟨by rfl, ?_⟩) ?_
  rotate_left
  focus (intro wS hSw; (try dsimp only at hSw); go_simp; (try with_reducible rfl); (try (first | (rw [if_pos (by omega)]; (try go_simp); (try with_reducible rfl)) | (rw [if_neg (by omega)]; (try go_simp); (try with_reducible rfl)))))
  try simp only [Act.put, zA, zB, zC]
  refine wpAnyR_done (by kernel_rfl) ?_ _
  clear hS
  have x2 := HB0.out.drew.cell 2
  go_wp2_with fail
  go_loopg [3] T.labels.length (fun gk i wr => ∃ k : Nat, k ≤ T.labels.length ∧ gk = T.labels.length - k ∧ i = .int .i64 k ∧ Blk wr w.heap.size 24 #[.string T.name, .int .i64 T.tracks, .slice A T.labels.length c] ∧ (∀ j (hj : j < T.labels.length), j < k → okL T.tracks T.labels[j] = true) ∧ (keysL (T.labels.take k)).Nodup ∧ Grew w wr)
  case atStart => exact ⟨0, by omega, by omega, rfl, HB0.out.drew, fun j _ h => by omega, by simp [keysL], HG0.out.drew⟩
  case round =>
    obtain ⟨k, hk, hgk, rfl, hb, hall, hnd, hg⟩ := hrel
    rename World => wr1
    have HGK := Lib.hid hgk
    have HA := Lib.hid hall
    have HND := Lib.hid hnd
    have HB := Lib.hid hb
    have HG := Lib.hid hg
    clear x2
    have x1 := hb.cell 1
    have x2 := hb.cell 2
    have hbl0 := hb.lt
    clear hgk hall hnd
    by_cases hlt : k < T.labels.length
    · obtain ⟨b, off, B, d, l, rfl, hbl, hxk, hv, hla, c0, c1, c2, c3, c4⟩ := (HTB.out.hold hg).at_ hlt
      have hle := HS.out.ext T.labels[k] (List.getElem_mem hlt)
      rw [hv] at hle
      have hks := keysL_snoc T.labels k hlt
      rw [hv] at hks
      have hgl : Grew wr1 (wr1.alloc (.cells #[.int .i64 l.id, .int .i64 l.unit, .string l.name, .string l.note, .slice B l.ext.length d] 31)) := (Grew.refl wr1).alloc _
      have HEM := Lib.hid (fun w3 (g3 : Grew (wr1.alloc (.cells #[.int .i64 l.id, .int .i64 l.unit, .string l.name, .string l.note, .slice B l.ext.length d] 31)) w3) => rempty_any B d l w3 ((hla.hold hgl).hold g3) hle)
      have HVL := Lib.hid (fun w3 (g3 : Grew (wr1.alloc (.cells #[.int .i64 l.id, .int .i64 l.unit, .string l.name, .string l.note, .slice B l.ext.length d] 31)) w3) => rvalid_lab B d l T.tracks w3 ((hla.hold hgl).hold g3) (by omega) ht0 ht1)
      have HV := Lib.hid hv
      have HKS := Lib.hid hks
      have HLB := Lib.hid (Blk.new wr1 31 #[.int .i64 l.id, .int .i64 l.unit, .string l.name, .string l.note, .slice B l.ext.length d] rfl)
      have HGL := Lib.hid hgl
      have HB1 := Lib.hid (hb.grew hgl)
      clear hv hxk hla hks hgl hb hg
      go_wp2_with fail
      refine (HEM.out _ (Grew.refl _)).mono ?_
      rintro e w3 ⟨rfl, g3⟩
      have hlb := HLB.out.grew g3
      have hb3 := HB1.out.grew g3
      have y0 := hlb.cell 0
      have y1 := hlb.cell 1
      have y2 := hlb.cell 2
      have y3 := hlb.cell 3
      have y4 := hlb.cell 4
      have hyl := hlb.lt
      have z1 := hb3.cell 1
      have z2 := hb3.cell 2
      have hzl := hb3.lt
      have HG3 := Lib.hid g3
      clear hlb hb3 c0 c1 c2 c3 c4 x1 x2
      -- behind the test of the label itself: the inner loop
      have inner : ∀ (K : True), okL T.tracks l = true → True := fun _ _ => trivial
      clear inner
      cases hem : emL l with
      | true =>
        have HEMT := Lib.hid hem
        have HOKL := Lib.hid (show okL T.tracks l = true from by unfold okL; rw [hem]; rfl)
        clear hem g3
        go_wp2_with fail
        go_loopg [5] k (fun gk i wr => ∃ q : Nat, q ≤ k ∧ gk = k - q ∧ i = .int .i64 q ∧ Blk wr w.heap.size 24 #[.string T.name, .int .i64 T.tracks, .slice (some ⟨b, off, none⟩) T.labels.length c] ∧ Blk wr wr1.heap.size 31 #[.int .i64 l.id, .int .i64 l.unit, .string l.name, .string l.note, .slice B l.ext.length d] ∧ (∀ j (hj : j < T.labels.length), j < q → True) ∧ Grew (wr1.alloc (.cells #[.int .i64 l.id, .int .i64 l.unit, .string l.name, .string l.note, .slice B l.ext.length d] 31)) wr)
        case atStart => exact ⟨0, by omega, by omega, rfl, HB1.out.grew HG3.out, HLB.out.grew HG3.out, fun j _ h => by omega, HG3.out⟩
        case round =>
          obtain ⟨q, hq, hgq, rfl, hb, hlb, hall, hg⟩ := hrel
          have HGQ := Lib.hid hgq
          have HQ := Lib.hid hall
          have HGR := Lib.hid hg
          have HBR := Lib.hid hb
          have HLR := Lib.hid hlb
          clear y0 y1 y2 y3 y4 hyl z1 z2 hzl hgq hall
          have z2 := hb.cell 2
          have hzl := hb.lt
          have y0 := hlb.cell 0
          have y1 := hlb.cell 1
          have y2 := hlb.cell 2
          have y3 := hlb.cell 3
          have y4 := hlb.cell 4
          have hyl := hlb.lt
          by_cases hqk : q < k
          · have hqT : q < T.labels.length := by omega
            obtain ⟨b', off', B2, d2, m, hbo, hbl2, hxk2, hv2, hla2, m0, m1, m2, m3, m4⟩ := (HTB.out.hold (HG.out.trans (HGL.out.trans hg))).at_ hqT
            injection hbo with hbo
            injection hbo with hbo1 hbo2 _
            subst hbo1; subst hbo2
            have hgm : Grew wr (wr.alloc (.cells #[.int .i64 m.id, .int .i64 m.unit, .string m.name, .string m.note, .slice B2 m.ext.length d2] 31)) := (Grew.refl wr).alloc _
            have HE2 := Lib.hid (HEM.out _ (hg.trans hgm))
            have HV2 := Lib.hid hv2
            have HGM := Lib.hid hgm
            have HMB := Lib.hid (Blk.new wr 31 #[.int .i64 m.id, .int .i64 m.unit, .string m.name, .string m.note, .slice B2 m.ext.length d2] rfl)
            have HOKM := Lib.hid (show okL T.tracks m = true from by have := HA.out q hqT hqk; rwa [hv2] at this)
            clear hv2 hxk2 hla2 hgm hb hlb hg
            go_wp2_with fail
            refine HE2.out.mono ?_
            rintro e w6 ⟨rfl, g6⟩
            rw [HEMT.out]
            have hlb6 := (HLR.out.grew HGM.out).grew g6
            have hmb6 := HMB.out.grew g6
            clear y0 y1 y2 y3 y4 hyl m0 m1 m2 m3 m4
            have y0 := hlb6.cell 0
            have y1 := hlb6.cell 1
            have hyl := hlb6.lt
            have m0 := hmb6.cell 0
            have m1 := hmb6.cell 1
            have hml := hmb6.lt
            have HG6 := Lib.hid ((HGR.out.trans HGM.out).trans g6)
            have HB6 := Lib.hid ((HBR.out.grew HGM.out).grew g6)
            have HL6 := Lib.hid hlb6
            clear hlb6 hmb6 g6
            go_wp2_with fail
            go_roundg (k - (q + 1))
            case measure => rw [HGQ.out]; omega
            case rel => exact ⟨q + 1, by omega, by omega, by go_num, HB6.out, HL6.out, fun _ _ _ => trivial, HG6.out⟩
          · clear hb hlb hg
            go_wp2_with fail
            go_roundg (T.labels.length - (k + 1))
            case measure => rw [HGK.out]; omega
            case rel =>
              refine ⟨k + 1, by omega, by omega, by go_num, HBR.out, ?_, ?_, HG.out.trans (HGL.out.trans HGR.out)⟩
              · intro j hj hjk
                by_cases hjk' : j = k
                · subst hjk'; rw [HV.out]; exact HOKL.out
                · exact HA.out j hj (by omega)
              · rw [HKS.out, if_pos HEMT.out, List.append_nil]; exact HND.out
      | false =>
        have HEMT := Lib.hid hem
        clear hem g3
        go_wp2_with fail
        refine (HVL.out w3 HG3.out).mono ?_
        rintro e w4 ⟨rfl, g4⟩
        cases hvl : validL l T.tracks with
        | false =>
          have HF := Lib.hid (validT_false_lab T k hlt (by rw [HV.out]; unfold okL; rw [HEMT.out, hvl]; rfl))
          clear hvl
          go_wp2_with fail
          go_ret
          exact ⟨ret_bool (by rw [HF.out]), HG.out.trans ((HGL.out.trans HG3.out).trans g4)⟩
        | true =>
          have HOKL := Lib.hid (show okL T.tracks l = true from by unfold okL; rw [hvl]; simp)
          have HG4 := Lib.hid (HG3.out.trans g4)
          have hlb := HLB.out.grew HG4.out
          have hb3 := HB1.out.grew HG4.out
          clear y0 y1 y2 y3 y4 hyl z1 z2 hzl hvl g4 
          have y0 := hlb.cell 0
          have y1 := hlb.cell 1
          have y2 := hlb.cell 2
          have y3 := hlb.cell 3
          have y4 := hlb.cell 4
          have hyl := hlb.lt
          have z1 := hb3.cell 1
          have z2 := hb3.cell 2
          have hzl := hb3.lt
          clear hlb hb3
          go_wp2_with fail
          go_loopg [5] k (fun gk i wr => ∃ q : Nat, q ≤ k ∧ gk = k - q ∧ i = .int .i64 q ∧ Blk wr w.heap.size 24 #[.string T.name, .int .i64 T.tracks, .slice (some ⟨b, off, none⟩) T.labels.length c] ∧ Blk wr wr1.heap.size 31 #[.int .i64 l.id, .int .i64 l.unit, .string l.name, .string l.note, .slice B l.ext.length d] ∧ (∀ j (hj : j < T.labels.length), j < q → clash T.labels[j] l = false) ∧ Grew (wr1.alloc (.cells #[.int .i64 l.id, .int .i64 l.unit, .string l.name, .string l.note, .slice B l.ext.length d] 31)) wr)
          case atStart => exact ⟨0, by omega, by omega, rfl, HB1.out.grew HG4.out, HLB.out.grew HG4.out, fun j _ h => by omega, HG4.out⟩
          case round =>
            obtain ⟨q, hq, hgq, rfl, hb, hlb, hall, hg⟩ := hrel
            have HGQ := Lib.hid hgq
            have HQ := Lib.hid hall
            have HGR := Lib.hid hg
            have HBR := Lib.hid hb
            have HLR := Lib.hid hlb
            clear y0 y1 y2 y3 y4 hyl z1 z2 hzl hgq hall
            have z2 := hb.cell 2
            have hzl := hb.lt
            have y0 := hlb.cell 0
            have y1 := hlb.cell 1
            have y2 := hlb.cell 2
            have y3 := hlb.cell 3
            have y4 := hlb.cell 4
            have hyl := hlb.lt
            by_cases hqk : q < k
            · have hqT : q < T.labels.length := by omega
              obtain ⟨b', off', B2, d2, m, hbo, hbl2, hxk2, hv2, hla2, m0, m1, m2, m3, m4⟩ := (HTB.out.hold (HG.out.trans (HGL.out.trans hg))).at_ hqT
              injection hbo with hbo
              injection hbo with hbo1 hbo2 _
              subst hbo1; subst hbo2
              have hgm : Grew wr (wr.alloc (.cells #[.int .i64 m.id, .int .i64 m.unit, .string m.name, .string m.note, .slice B2 m.ext.length d2] 31)) := (Grew.refl wr).alloc _
              have HE2 := Lib.hid (HEM.out _ (hg.trans hgm))
              have HV2 := Lib.hid hv2
              have HGM := Lib.hid hgm
              have HMB := Lib.hid (Blk.new wr 31 #[.int .i64 m.id, .int .i64 m.unit, .string m.name, .string m.note, .slice B2 m.ext.length d2] rfl)
              have HOKM := Lib.hid (show okL T.tracks m = true from by have := HA.out q hqT hqk; rwa [hv2] at this)
              clear hv2 hxk2 hla2 hgm hb hlb hg
              go_wp2_with fail
              refine HE2.out.mono ?_
              rintro e w6 ⟨rfl, g6⟩
              rw [HEMT.out]
              have hlb6 := (HLR.out.grew HGM.out).grew g6
              have hmb6 := HMB.out.grew g6
              clear y0 y1 y2 y3 y4 hyl m0 m1 m2 m3 m4
              have y0 := hlb6.cell 0
              have y1 := hlb6.cell 1
              have hyl := hlb6.lt
              have m0 := hmb6.cell 0
              have m1 := hmb6.cell 1
              have hml := hmb6.lt
              have HG6 := Lib.hid ((HGR.out.trans HGM.out).trans g6)
              have HB6 := Lib.hid ((HBR.out.grew HGM.out).grew g6)
              have HL6 := Lib.hid hlb6
              clear hlb6 hmb6 g6
              have HCL := Lib.hid (show clash m l = ((m.id == l.id) && ((m.unit == 0) == (l.unit == 0))) from rfl)
              have next : clash m l = false → ∀ j (hj : j < T.labels.length), j < q + 1 → clash T.labels[j] l = false := fun hc j hj hjq => by
                by_cases hjq' : j = q
                · subst hjq'; rw [HV2.out]; exact hc
                · exact HQ.out j hj (by omega)
              have NX := Lib.hid next
              clear next
              cases e1 : (m.id == l.id) with
              | false =>
                have HC := Lib.hid (show clash m l = false from HCL.out.trans (by rw [e1]; rfl))
                go_wp2_with fail
                go_roundg (k - (q + 1))
                case measure => rw [HGQ.out]; omega
                case rel => exact ⟨q + 1, by omega, by omega, by go_num, HB6.out, HL6.out, NX.out HC.out, HG6.out⟩
              | true =>
                cases e2 : (m.unit == 0) with
                | true =>
                  cases e3 : (l.unit == 0) with
                  | true =>
                    have HC := Lib.hid (show clash m l = true from HCL.out.trans (by rw [e1, e2, e3]; rfl))
                    obtain ⟨hc1, hc2⟩ := clash_key T.tracks m l HOKM.out HOKL.out HEMT.out HC.out
                    have HF := Lib.hid (validT_false_key T (fun hnd => by
                      have h1 := keysL_take_nodup T.labels (k + 1) hnd
                      rw [HKS.out, if_neg (by rw [HEMT.out]; simp)] at h1
                      have h2 := keys_in T.labels k q hqT hqk (by rw [HV2.out]; exact hc1)
                      rw [HV2.out, hc2] at h2
                      exact (List.nodup_append.1 h1).2.2 _ h2 _ (List.mem_singleton.2 rfl) rfl))
                    clear hc1 hc2
                    go_wp2_with fail
                    go_ret
                    exact ⟨ret_bool (by rw [HF.out]), HG.out.trans (HGL.out.trans HG6.out)⟩
                  | false =>
                    have HC := Lib.hid (show clash m l = false from HCL.out.trans (by rw [e1, e2, e3]; rfl))
                    go_wp2_with fail
                    go_roundg (k - (q + 1))
                    case measure => rw [HGQ.out]; omega
                    case rel => exact ⟨q + 1, by omega, by omega, by go_num, HB6.out, HL6.out, NX.out HC.out, HG6.out⟩
                | false =>
                  cases e3 : (l.unit == 0) with
                  | true =>
                    have HC := Lib.hid (show clash m l = false from HCL.out.trans (by rw [e1, e2, e3]; rfl))
                    go_wp2_with fail
                    go_roundg (k - (q + 1))
                    case measure => rw [HGQ.out]; omega
                    case rel => exact ⟨q + 1, by omega, by omega, by go_num, HB6.out, HL6.out, NX.out HC.out, HG6.out⟩
                  | false =>
                    have HC := Lib.hid (show clash m l = true from HCL.out.trans (by rw [e1, e2, e3]; rfl))
                    obtain ⟨hc1, hc2⟩ := clash_key T.tracks m l HOKM.out HOKL.out HEMT.out HC.out
                    have HF := Lib.hid (validT_false_key T (fun hnd => by
                      have h1 := keysL_take_nodup T.labels (k + 1) hnd
                      rw [HKS.out, if_neg (by rw [HEMT.out]; simp)] at h1
                      have h2 := keys_in T.labels k q hqT hqk (by rw [HV2.out]; exact hc1)
                      rw [HV2.out, hc2] at h2
                      exact (List.nodup_append.1 h1).2.2 _ h2 _ (List.mem_singleton.2 rfl) rfl))
                    clear hc1 hc2
                    go_wp2_with fail
                    go_ret
                    exact ⟨ret_bool (by rw [HF.out]), HG.out.trans (HGL.out.trans HG6.out)⟩
            · clear hb hlb hg
              go_wp2_with fail
              go_roundg (T.labels.length - (k + 1))
              case measure => rw [HGK.out]; omega
              case rel =>
                refine ⟨k + 1, by omega, by omega, by go_num, HBR.out, ?_, ?_, HG.out.trans (HGL.out.trans HGR.out)⟩
                · intro j hj hjk
                  by_cases hjk' : j = k
                  · subst hjk'; rw [HV.out]; exact HOKL.out
                  · exact HA.out j hj (by omega)
                · rw [HKS.out, if_neg (by rw [HEMT.out]; simp), List.nodup_append]
                  refine ⟨HND.out, by simp, fun a ha b2 hb2 he => ?_⟩
                  rw [List.mem_singleton.1 hb2] at he
                  subst he
                  obtain ⟨j, hj, hjk, hje, hjx⟩ := keys_mem T.labels k _ ha
                  have h1 := HQ.out j hj (by omega)
                  rw [key_clash T.tracks _ _ (HA.out j hj hjk) HOKL.out hjx] at h1
                  cases h1
    · have hkn : k = T.labels.length := by omega
      subst hkn
      have HAL := Lib.hid (show T.labels.all (okL T.tracks) = true from List.all_eq_true.2 (fun l hl => by
        obtain ⟨j, hj, rfl⟩ := List.getElem_of_mem hl
        exact HA.out j hj hj))
      have HNDT := Lib.hid (show (keysL T.labels).Nodup from by have := HND.out; rwa [List.take_length] at this)
      have HU := Lib.hid (used_tab A c xs T wr1 (HTB.out.hold hg) ⟨by omega, fun l hl => (okL_ext l T.tracks (List.all_eq_true.1 HAL.out l hl)).1⟩)
      have hxl : (extsL T.labels).length ≤ 496 := by
        have := extsL_len T.labels 16 (fun l hl => (okL_ext l T.tracks (List.all_eq_true.1 HAL.out l hl)).1)
        omega
      have HF := Lib.hid (validT_of T HHD.out HAL.out HNDT.out)
      have x0 := hb.cell 0
      clear hb hg
      go_wp2_with fail
      refine HU.out.mono ?_
      rintro e w8 ⟨A8, c8, rfl, hr8, g8⟩
      have HD := Lib.hid (refdisj_val (A := A8) (c := c8) (w := w8) rfl (by omega) hr8 _ rfl)
      clear hr8
      go_wp2_with fail
      refine HD.out.mono ?_
      rintro e w9 ⟨rfl, g9⟩
      go_wp2_with fail
      go_ret
      exact ⟨ret_bool (by rw [HF.out]), (HG.out.trans g8).trans g9⟩
end Go.Proofs.YtnlaogneceanoaaGreat
namespace Go.Proofs.YtnlaogneceanoaaGreat
set_option linter.unusedVariables false
set_option linter.unusedSimpArgs false
set_option linter.unusedSectionVars false
open Go.RowKit Go.Shelf Go.Lib
attribute [local go_sem ↓] Go.wp_at_zero Go.wp_at_succ
def ltP (a b : Int × Int) : Prop := a.1 < b.1 ∨ a.1 = b.1 ∧ a.2 < b.2
instance (a b : Int × Int) : Decidable (ltP a b) := by unfold ltP; exact inferInstance
end Go.Proofs.YtnlaogneceanoaaGreat
namespace Go.Proofs.YtnlaogneceanoaaGreat
set_option linter.unusedVariables false
set_option linter.unusedSimpArgs false
set_option linter.unusedSectionVars false
open Go.RowKit
attribute [local go_sem ↓] Go.wp_at_zero Go.wp_at_succ
theorem OwnL.lower2 {w : World} {b b' e sz : Nat} {v : Value} {rows : List (List Value)} (h : OwnL w b e sz v rows) (hb : b' ≤ b) : OwnL w b' e sz v rows := by
  refine ⟨h.1, h.2.1, ?_⟩
  rcases h.2.2 with h0 | ⟨g, cap, cur, h1, h2, h3⟩
  · exact .inl h0
  · exact .inr ⟨g, cap, cur, h1, Nat.le_trans hb h2, h3⟩
section
variable (A : Option Addr) (c : Nat) (xs : List LabE) (T : Tab) (w : World)
end
end Go.Proofs.YtnlaogneceanoaaGreat
namespace Go.Proofs.YtnlaogneceanoaaGreat
set_option linter.unusedVariables false
set_option linter.unusedSimpArgs false
set_option linter.unusedSectionVars false
open Go.RowKit
attribute [local go_sem ↓] Go.wp_at_zero Go.wp_at_succ
theorem strC_row (l : List ByteArray) : ∀ r ∈ l.map strC, r.length = 1 := by intro r h; obtain ⟨x, _, rfl⟩ := List.mem_map.1 h; rfl
theorem strC_one (l : List ByteArray) : ∀ r ∈ l.map strC, r.all (·.oneCell') = true := by intro r h; obtain ⟨x, _, rfl⟩ := List.mem_map.1 h; rfl
theorem lab_1024 (t : Int) (ht : okT t = true) (l : Lab) (h : emL l = true ∨ validL l t = true) : (encS l t).size = 1024 := by
  rcases h with h | h
  · unfold encS
    rw [if_pos ⟨ht, h⟩]
    exact padS_size _ _ (by decide)
  · exact encS_size l t h
theorem head_1024 (T : Tab) (h : validT T = true) : (headS T.name T.tracks).size = 1024 := by
  have hg := (validT_iff T).1 h
  have hp : NameP T.name := of_decide_eq_true hg.nm
  unfold headS
  rw [if_pos ⟨hg.nm, hg.tr⟩]
  refine padS_size _ _ ?_
  have := hp.2.1
  have z1 := eB_size T.name.size
  have z2 := eB_size T.tracks.toNat
  rw [ByteArray.size_append, ByteArray.size_append]
  omega
theorem body_size (T : Tab) (h : validT T = true) : ∀ k, k ≤ T.labels.length → (bodyS T k).size = 1024 * (k + 1) := by
  intro k
  induction k with
  | zero => intro _; rw [bodyS_zero, head_1024 T h]
  | succ k ih =>
    intro hk
    have hg := (validT_iff T).1 h
    rw [bodyS_next T k (by omega), ByteArray.size_append, ih (by omega), lab_1024 T.tracks hg.tr _ (hg.ok _ (List.getElem_mem _))]
    omega
theorem cut_next (T : Tab) (h : validT T = true) (k : Nat) (hk : k < T.labels.length) : cutS (bodyS T (k + 1)) = cutS (bodyS T k) ++ cutS (encS T.labels[k] T.tracks) := by
  rw [bodyS_next T k hk]
  exact cutS_app _ _ (by rw [body_size T h k (by omega)]; omega)
section
variable (A : Option Addr) (c : Nat) (xs : List LabE) (T : Tab) (w : World)
set_option maxRecDepth 100000 in
set_option maxHeartbeats 8000000 in
theorem rsectors_tab (h : TabAt w A c xs T) (hs : SmallT T) :
    Calls Tryz.prog 30 #[.agg #[.string T.name, .int .i64 T.tracks, .slice A T.labels.length c]] w fun e w' => ∃ v, e = .returned v ∧ OwnL w' w.heap.size 9 1 v ((secT T).map strC) ∧ Grew w w' := by
  have hg0 := (Grew.refl w).alloc (.cells #[.string T.name, .int .i64 T.tracks, .slice A T.labels.length c] 24)
  have HB0 := Lib.hid (Blk.new w 24 #[.string T.name, .int .i64 T.tracks, .slice A T.labels.length c] rfl)
  have HV := Lib.hid (rvalid_tab A c xs T _ (h.hold hg0) hs _ rfl)
  have HTB := Lib.hid h
  have HS := Lib.hid hs
  have HG0 := Lib.hid hg0
  have hnm := h.name
  have hlen := hs.len
  have HT01 := Lib.hid (show -9223372036854775808 ≤ T.tracks ∧ T.tracks ≤ 9223372036854775807 from ⟨h.tr0, h.tr1⟩)
  clear h hs hg0
  cases hv : validT T with
  | false =>
    have HE := Lib.hid (show secT T = [] from by unfold secT; rw [if_neg (by rw [hv]; simp)])
    have HVF := Lib.hid hv
    clear hv
    go_enter Tryz.func30, Tryz.ntmps30
    go_wp2_with fail
    refine HV.out.mono ?_
    rintro e w1 ⟨rfl, g1⟩
    rw [HVF.out]
    go_wp2_with fail
    go_ret
    exact ⟨_, rfl, by rw [HE.out]; exact OwnL.nil _ _ _ _, HG0.out.trans g1⟩
  | true =>
    have HE := Lib.hid (show secT T = cutS (bodyS T T.labels.length) from by unfold secT; rw [if_pos hv])
    have HVF := Lib.hid hv
    have HNX := Lib.hid (fun k hk => cut_next T hv k hk)
    have HBS := Lib.hid (fun k hk => body_size T hv k hk)
    have HL1 := Lib.hid (fun k (hk : k < T.labels.length) => lab_1024 T.tracks ((validT_iff T).1 hv).tr T.labels[k] (((validT_iff T).1 hv).ok _ (List.getElem_mem hk)))
    have HH := Lib.hid (head_1024 T hv)
    clear hv
    go_enter Tryz.func30, Tryz.ntmps30
    go_wp2_with fail
    refine HV.out.mono ?_
    rintro e w1 ⟨rfl, g1⟩
    rw [HVF.out]
    have HB1 := Lib.hid (HB0.out.grew g1)
    have HG1 := Lib.hid (HG0.out.trans g1)
    have x0 := HB1.out.cell 0
    have x1 := HB1.out.cell 1
    have hbl := HB1.out.lt
    clear g1
    go_wp2_with fail
    refine (rencHead_any T.name T.tracks _ hnm).mono ?_
    rintro e w2 ⟨rfl, g2⟩
    have HB2 := Lib.hid (HB1.out.grew g2)
    have HG2 := Lib.hid (HG1.out.trans g2)
    clear x0 x1 hbl g2
    go_wp2_with fail
    refine (rcut_any (headS T.name T.tracks) _ (by rw [HH.out]; omega)).mono ?_
    rintro e w3 ⟨v3, rfl, ho3, g3⟩
    have HB3 := Lib.hid (HB2.out.grew g3)
    have HG3 := Lib.hid (HG2.out.trans g3)
    have HO3 := Lib.hid (ho3.lower2 (b' := w.heap.size) HG2.out.size)
    clear ho3 g3
    go_wp2_with fail
    go_loopg [3, 4] T.labels.length (fun gk ov i wr => ∃ k : Nat, k ≤ T.labels.length ∧ gk = T.labels.length - k ∧ i = .int .i64 k ∧ OwnL wr w.heap.size 9 1 ov ((cutS (bodyS T k)).map strC) ∧ Blk wr w.heap.size 24 #[.string T.name, .int .i64 T.tracks, .slice A T.labels.length c] ∧ Grew w wr)
    case atStart => exact ⟨0, by omega, by omega, rfl, HO3.out, HB3.out, HG3.out⟩
    case round =>
      obtain ⟨k, hk, hgk, rfl, hown, hb, hg⟩ := hrel
      have HGK := Lib.hid hgk
      have HOWN := Lib.hid hown
      have HB := Lib.hid hb
      have HG := Lib.hid hg
      have x2 := hb.cell 2
      have hbl := hb.lt
      clear hgk
      by_cases hlt : k < T.labels.length
      · obtain ⟨b, off, B, d, l, rfl, hbl5, hxk, hv, hla, c0, c1, c2, c3, c4⟩ := (HTB.out.hold hg).at_ hlt
        have hle := HS.out.ext T.labels[k] (List.getElem_mem hlt)
        rw [hv] at hle
        have hn := HNX.out k hlt
        rw [hv] at hn
        have HN := Lib.hid hn
        have hz := HL1.out k hlt
        rw [hv] at hz
        have HZ := Lib.hid hz
        have HLA := Lib.hid hla
        have hcl : (cutS (bodyS T k)).length ≤ 100000 := by rw [cutS_len, HBS.out k (by omega)]; omega
        have hbs := hb.cell 1
        have hS : (fun w' : World => w'.cell? ⟨w.heap.size, 1, none⟩ = some (.int .i64 T.tracks) ∧ w'.cell? ⟨w.heap.size, 2, none⟩ = some (.slice (some ⟨b, off, none⟩) T.labels.length c) ∧ w'.cell? ⟨b, off + k * 5, none⟩ = some (.int .i64 l.id) ∧ w'.cell? ⟨b, off + k * 5 + 1, none⟩ = some (.int .i64 l.unit) ∧ w'.cell? ⟨b, off + k * 5 + 2, none⟩ = some (.string l.name) ∧ w'.cell? ⟨b, off + k * 5 + 3, none⟩ = some (.string l.note) ∧ w'.cell? ⟨b, off + k * 5 + 4, none⟩ = some (.slice B l.ext.length d)) wr.drew := ⟨hb.drew.cell 1, hb.drew.cell 2, c0, c1, c2, c3, c4⟩
        have HSG := Lib.hid (show ∀ w1 : World, Grew wr.drew w1 → (fun w' : World => w'.cell? ⟨w.heap.size, 1, none⟩ = some (.int .i64 T.tracks) ∧ w'.cell? ⟨w.heap.size, 2, none⟩ = some (.slice (some ⟨b, off, none⟩) T.labels.length c) ∧ w'.cell? ⟨b, off + k * 5, none⟩ = some (.int .i64 l.id) ∧ w'.cell? ⟨b, off + k * 5 + 1, none⟩ = some (.int .i64 l.unit) ∧ w'.cell? ⟨b, off + k * 5 + 2, none⟩ = some (.string l.name) ∧ w'.cell? ⟨b, off + k * 5 + 3, none⟩ = some (.string l.note) ∧ w'.cell? ⟨b, off + k * 5 + 4, none⟩ = some (.slice B l.ext.length d)) w1 from fun w1 g => by
          have e2 := fun o => g.cellEq b o hbl5
          have y1 := (hb.drew.grew g).cell 1
          have y2 := (hb.drew.grew g).cell 2
          refine ⟨y1, y2, ?_, ?_, ?_, ?_, ?_⟩ <;> rw [e2] <;> assumption)
        have HCL := Lib.hid hcl
        have HG0' := Lib.hid (Grew.refl wr).drew
        clear hn hz hv hxk hla hb hg hown hbs hcl
        go_wp2_with fail
        refine wp_region_R [10] (fun w' : World => w'.cell? ⟨w.heap.size, 1, none⟩ = some (.int .i64 T.tracks) ∧ w'.cell? ⟨w.heap.size, 2, none⟩ = some (.slice (some ⟨b, off, none⟩) T.labels.length c) ∧ w'.cell? ⟨b, off + k * 5, none⟩ = some (.int .i64 l.id) ∧ w'.cell? ⟨b, off + k * 5 + 1, none⟩ = some (.int .i64 l.unit) ∧ w'.cell? ⟨b, off + k * 5 + 2, none⟩ = some (.string l.name) ∧ w'.cell? ⟨b, off + k * 5 + 3, none⟩ = some (.string l.note) ∧ w'.cell? ⟨b, off + k * 5 + 4, none⟩ = some (.slice B l.ext.length d)) (by kernel_rfl) ?_
        refine wpAnyR_takeQ (i := 0) (v := ?_) (some 21) rfl rfl (by kernel_rfl) (by kernel_rfl) (by kernel_rfl) (by kernel_rfl) (fun _ _ _ h => h) (Or.inl ⟨by rfl, ?_⟩) ?_
        rotate_left
        focus (intro wS hSw; (try dsimp only at hSw); go_simp; (try with_reducible rfl); (try (first | (rw [if_pos (by omega)]; (try go_simp); (try with_reducible rfl)) | (rw [if_neg (by omega)]; (try go_simp); (try with_reducible rfl)))))
        try simp only [Act.put, zA, zB, zC]
        refine wpAnyR_takeQ (i := 1) (v := ?_) (some 22) rfl rfl (by kernel_rfl) (by kernel_rfl) (by kernel_rfl) (by kernel_rfl) (fun _ _ _ h => h) (Or.inl ⟨by rfl, ?_⟩) ?_
        rotate_left
        focus (intro wS hSw; (try dsimp only at hSw); go_simp; (try with_reducible rfl); (try (first | (rw [if_pos (by omega)]; (try go_simp); (try with_reducible rfl)) | (rw [if_neg (by omega)]; (try go_simp); (try with_reducible rfl)))))
        try simp only [Act.put, zA, zB, zC]
        refine wpAnyR_take (i := 2) (v := ?_) [4, 5, 8, 9, 10, 11] (some 23) rfl rfl (by kernel_rfl) (by kernel_rfl) (by kernel_rfl) (by kernel_rfl) (by kernel_rfl) (by kernel_rfl) (by kernel_rfl) (fun _ _ _ h => h) (Or.inl ⟨by rfl, ?_⟩) hS ?_
        rotate_left
        focus (intro wS hSw; (try dsimp only at hSw); go_simp; (try with_reducible rfl); (try (first | (rw [if_pos (by omega)]; (try go_simp); (try with_reducible rfl)) | (rw [if_neg (by omega)]; (try go_simp); (try with_reducible rfl)))))
        try simp only [Act.put, zA, zB, zC]
        refine wpAnyR_takeQ (i := 3) (v := ?_) (some 24) rfl rfl (by kernel_rfl) (by kernel_rfl) (by kernel_rfl) (by kernel_rfl) (fun _ _ _ h => h) (Or.inl ⟨by rfl, ?_⟩) ?_
        rotate_left
        focus (intro wS hSw; (try dsimp only at hSw); go_simp; (try with_reducible rfl); (try (first | (rw [if_pos (by omega)]; (try go_simp); (try with_reducible rfl)) | (rw [if_neg (by omega)]; (try go_simp); (try with_reducible rfl)))))
        try simp only [Act.put, zA, zB, zC]
        refine wpAnyR_takeQ (i := 4) (v := ?_) (some 25) rfl rfl (by kernel_rfl) (by kernel_rfl) (by kernel_rfl) (by kernel_rfl) (fun _ _ _ h => h) (Or.inl ⟨by rfl, ?_⟩) ?_
        rotate_left
        focus (intro wS hSw; (try dsimp only at hSw); go_simp; (try with_reducible rfl); (try (first | (rw [if_pos (by omega)]; (try go_simp); (try with_reducible rfl)) | (rw [if_neg (by omega)]; (try go_simp); (try with_reducible rfl)))))
        try simp only [Act.put, zA, zB, zC]
        refine wpAnyR_take (i := 5) (v := ?_) [8, 9, 10, 11] (some 26) rfl rfl (by kernel_rfl) (by kernel_rfl) (by kernel_rfl) (by kernel_rfl) (by kernel_rfl) (by kernel_rfl) (by kernel_rfl) (fun _ _ _ h => h) (Or.inl ⟨by rfl, ?_⟩) hS ?_
        rotate_left
        focus (intro wS hSw; (try dsimp only at hSw); go_simp; (try with_reducible rfl); (try (first | (rw [if_pos (by omega)]; (try go_simp); (try with_reducible rfl)) | (rw [if_neg (by omega)]; (try go_simp); (try with_reducible rfl)))))
        try simp only [Act.put, zA, zB, zC]
        refine wpAnyR_takeQ (i := 6) (v := ?_) (some 27) rfl rfl (by kernel_rfl) (by kernel_rfl) (by kernel_rfl) (by kernel_rfl) (fun _ _ _ h => h) (Or.inl ⟨by rfl, ?_⟩) ?_
        rotate_left
        focus (intro wS hSw; (try dsimp only at hSw); go_simp; (try with_reducible rfl); (try (first | (rw [if_pos (by omega)]; (try go_simp); (try with_reducible rfl)) | (rw [if_neg (by omega)]; (try go_simp); (try with_reducible rfl)))))
        try simp only [Act.put, zA, zB, zC]
        refine wpAnyR_take (i := 7) (v := ?_) [8, 9, 10, 11] (some 28) rfl rfl (by kernel_rfl) (by kernel_rfl) (by kernel_rfl) (by kernel_rfl) (by kernel_rfl) (by kernel_rfl) (by kernel_rfl) (fun _ _ _ h => h) (Or.inl ⟨by rfl, ?_⟩) hS ?_
        rotate_left
        focus (intro wS hSw; (try dsimp only at hSw); go_simp; (try with_reducible rfl); (try (first | (rw [if_pos (by omega)]; (try go_simp); (try with_reducible rfl)) | (rw [if_neg (by omega)]; (try go_simp); (try with_reducible rfl)))))
        try simp only [Act.put, zA, zB, zC]
        refine wpAnyR_n1 (i := 8) rfl (by kernel_rfl) ?_
        intro K' hK
        rw [if_pos (by rfl)]
        simp only [List.getElem_toArray, List.getElem_cons_succ, List.getElem_cons_zero]
        go_wp2_with fail
        refine (rencode_lab B d l T.tracks _ (HLA.out.hold HG0'.out) (by omega) HT01.out.1 HT01.out.2).mono ?_
        rintro e w4 ⟨rfl, g4⟩
        have G4 := g4
        go_wp2_with fail
        refine hK.out _ _ (.inr (fun _ => HSG.out _ G4)) ?_
        clear hK hS
        have hS := HSG.out _ G4
        refine wpAnyR_n1 (i := 9) rfl (by kernel_rfl) ?_
        intro K' hK
        rw [if_pos (by rfl)]
        simp only [List.getElem_toArray, List.getElem_cons_succ, List.getElem_cons_zero]
        go_wp2_with fail
        refine (rcut_any (encS l T.tracks) _ (by rw [HZ.out]; omega)).mono ?_
        rintro e w5 ⟨v5, rfl, ho5, g5⟩
        have G5 := G4.trans g5
        obtain ⟨A5, c5, rfl, hl5, hc5, hr5⟩ := ho5.listAt
        go_wp2_with fail
        refine hK.out _ _ (.inr (fun _ => HSG.out _ G5)) ?_
        clear hK hS
        have hS := HSG.out _ G5
        have hown5 := (HOWN.out.drew).grew G5
        have hgw5 : Grew w w5 := HG.out.drew.trans G5
        have HGW5 := Lib.hid hgw5
        refine wpAnyR_n1 (i := 10) rfl (by kernel_rfl) ?_
        intro K' hK
        rw [if_pos (by rfl)]
        simp only [List.getElem_toArray, List.getElem_cons_succ, List.getElem_cons_zero]
        refine wp_pushAll (.tmp 21) (.tmp 30) 50 rfl w.heap.size 9 1 16 _ Tryz.underlying50 info_str rfl (by decide) _ _ ((cutS (encS l T.tracks)).map strC) rfl hown5 _ _ _ rfl (by first | rfl | (rw [List.length_map])) (strC_row _) hr5 (strC_one _) (by have := HCL.out; rw [List.length_map, cutS_len (encS l T.tracks), HZ.out]; omega) (by have := HCL.out; rw [List.length_map, cutS_len (encS l T.tracks), HZ.out]; omega) hgw5.size ?_
        intro v6 w6 hown6 hgr6 hat6
        have HG6 := Lib.hid (HGW5.out.own hgr6 hown5.row_ge (Nat.le_refl _))
        have HB6 := Lib.hid (((HB.out.drew).grew G5).own hgr6 (hown5.ne_blk ((HB.out.drew).grew G5) (by decide)))
        have HO6 := Lib.hid hown6
        refine hK.out _ _ (.inl rfl) ?_
        clear hK hown6 hgr6 hat6 hown5 hgw5
        refine wpAnyR_takeQ (i := 11) (v := ?_) (some 3) rfl rfl (by kernel_rfl) (by kernel_rfl) (by kernel_rfl) (by kernel_rfl) (fun _ _ _ h => h) (Or.inl ⟨by rfl, ?_⟩) ?_
        rotate_left
        focus (intro wS hSw; (try dsimp only at hSw); go_simp; (try with_reducible rfl); (try (first | (rw [if_pos (by omega)]; (try go_simp); (try with_reducible rfl)) | (rw [if_neg (by omega)]; (try go_simp); (try with_reducible rfl)))))
        try simp only [Act.put, zA, zB, zC]
        refine wpAnyR_done (by kernel_rfl) ?_ _
        clear hS c0 c1 c2 c3 c4 x2
        go_wp2_with fail
        go_roundg (T.labels.length - (k + 1))
        case measure => rw [HGK.out]; omega
        case rel => exact ⟨k + 1, by omega, by omega, by go_num, by rw [HN.out, List.map_append]; exact HO6.out, HB6.out, HG6.out⟩
      · have hkn : k = T.labels.length := by omega
        subst hkn
        clear hb hg hown
        go_wp2_with fail
        go_ret
        exact ⟨_, rfl, by rw [HE.out]; exact HOWN.out, HG.out⟩
end
end Go.Proofs.YtnlaogneceanoaaGreat
namespace Go.Proofs.YtnlaogneceanoaaGreat
set_option linter.unusedVariables false
set_option linter.unusedSimpArgs false
set_option linter.unusedSectionVars false
open Go.RowKit
attribute [local go_sem ↓] Go.wp_at_zero Go.wp_at_succ
def wrC (p : Int × ByteArray) : List Value := [.int .i64 p.1, .string p.2]
set_option maxRecDepth 100000 in
set_option maxHeartbeats 4000000 in
theorem same_writes (A B : Option Addr) (c d : Nat) (kf : List (Int × ByteArray)) (w : World) (h1 : ListAt w w.heap.size 2 A (kf.map wrC)) (h2 : ListAt w w.heap.size 2 B (kf.map wrC)) (hl : kf.length ≤ 100000) :
    Calls Tryz.prog 31 #[.slice A kf.length c, .slice B kf.length d] w fun e w' => e = .returned (.bool true) ∧ Grew w w' := by
  have H1 := Lib.hid h1
  have H2 := Lib.hid h2
  have hb : ((kf.length : Int) != (kf.length : Int)) = false := by simp
  clear h1 h2
  go_enter Tryz.func31, Tryz.ntmps31
  go_wp2_with fail
  go_loopg [5] kf.length (fun gk i wr => ∃ k : Nat, k ≤ kf.length ∧ gk = kf.length - k ∧ i = .int .i64 k ∧ Grew w wr)
  case atStart => exact ⟨0, by omega, by omega, rfl, Grew.refl _⟩
  case round =>
    obtain ⟨k, hk, hgk, rfl, hg⟩ := hrel
    have HGK := Lib.hid hgk
    have HG := Lib.hid hg
    have hgs := hg.size
    clear hgk hb
    by_cases hlt : k < kf.length
    · obtain ⟨b1, o1, rfl, hb1, hc1⟩ := H1.out (by rw [List.length_map]; omega)
      obtain ⟨b2, o2, rfl, hb2, hc2⟩ := H2.out (by rw [List.length_map]; omega)
      obtain ⟨⟨xi, xu⟩, hxk⟩ : ∃ p, kf[k] = p := ⟨_, rfl⟩
      have hrow : (kf.map wrC)[k]? = some [.int .i64 xi, .string xu] := by rw [List.getElem?_map, List.getElem?_eq_getElem hlt, hxk]; rfl
      have q0 : wr.cell? ⟨b1, o1 + k * 2, none⟩ = some (.int .i64 xi) := by rw [hg.cellEq _ _ hb1]; exact hc1 k _ hrow 0 _ rfl
      have q1 : wr.cell? ⟨b1, o1 + k * 2 + 1, none⟩ = some (.string xu) := by rw [hg.cellEq _ _ hb1]; exact hc1 k _ hrow 1 _ rfl
      have p0 : wr.cell? ⟨b2, o2 + k * 2, none⟩ = some (.int .i64 xi) := by rw [hg.cellEq _ _ hb2]; exact hc2 k _ hrow 0 _ rfl
      have p1 : wr.cell? ⟨b2, o2 + k * 2 + 1, none⟩ = some (.string xu) := by rw [hg.cellEq _ _ hb2]; exact hc2 k _ hrow 1 _ rfl
      have hb1r := Nat.lt_of_lt_of_le hb1 hgs
      have hb2r := Nat.lt_of_lt_of_le hb2 hgs
      have hS : (fun w' : World => w'.cell? ⟨b1, o1 + k * 2, none⟩ = some (.int .i64 xi) ∧ w'.cell? ⟨b1, o1 + k * 2 + 1, none⟩ = some (.string xu) ∧ w'.cell? ⟨b2, o2 + k * 2, none⟩ = some (.int .i64 xi) ∧ w'.cell? ⟨b2, o2 + k * 2 + 1, none⟩ = some (.string xu)) wr.drew := ⟨q0, q1, p0, p1⟩
      clear hrow hxk hc1 hc2 hg
      go_wp2_with fail
      refine wp_region_R [] (fun w' : World => w'.cell? ⟨b1, o1 + k * 2, none⟩ = some (.int .i64 xi) ∧ w'.cell? ⟨b1, o1 + k * 2 + 1, none⟩ = some (.string xu) ∧ w'.cell? ⟨b2, o2 + k * 2, none⟩ = some (.int .i64 xi) ∧ w'.cell? ⟨b2, o2 + k * 2 + 1, none⟩ = some (.string xu)) (by kernel_rfl) ?_
      refine wpAnyR_takeQ (i := 0) (v := ?_) (some 17) rfl rfl (by kernel_rfl) (by kernel_rfl) (by kernel_rfl) (by kernel_rfl) (fun _ _ _ h => h) (Or.inl ⟨by rfl, ?_⟩) ?_
      rotate_left
      focus (intro wS hSw; (try dsimp only at hSw); go_simp; (try with_reducible rfl); (try (first | (rw [if_pos (by omega)]; (try go_simp); (try with_reducible rfl)) | (rw [if_neg (by omega)]; (try go_simp); (try with_reducible rfl)))))
      try simp only [Act.put, zA, zB, zC]
      refine wpAnyR_takeQ (i := 1) (v := ?_) (some 18) rfl rfl (by kernel_rfl) (by kernel_rfl) (by kernel_rfl) (by kernel_rfl) (fun _ _ _ h => h) (Or.inl ⟨by rfl, ?_⟩) ?_
      rotate_left
      focus (intro wS hSw; (try dsimp only at hSw); go_simp; (try with_reducible rfl); (try (first | (rw [if_pos (by omega)]; (try go_simp); (try with_reducible rfl)) | (rw [if_neg (by omega)]; (try go_simp); (try with_reducible rfl)))))
      try simp only [Act.put, zA, zB, zC]
      refine wpAnyR_takeQ (i := 2) (v := ?_) (some 19) rfl rfl (by kernel_rfl) (by kernel_rfl) (by kernel_rfl) (by kernel_rfl) (fun _ _ _ h => h) (Or.inl ⟨by rfl, ?_⟩) ?_
      rotate_left
      focus (intro wS hSw; (try dsimp only at hSw); go_simp; (try with_reducible rfl); (try (first | (rw [if_pos (by omega)]; (try go_simp); (try with_reducible rfl)) | (rw [if_neg (by omega)]; (try go_simp); (try with_reducible rfl)))))
      try simp only [Act.put, zA, zB, zC]
      refine wpAnyR_take (i := 3) (v := ?_) [8] (some 20) rfl rfl (by kernel_rfl) (by kernel_rfl) (by kernel_rfl) (by kernel_rfl) (by kernel_rfl) (by kernel_rfl) (by kernel_rfl) (fun _ _ _ h => h) (Or.inl ⟨by rfl, ?_⟩) hS ?_
      rotate_left
      focus (intro wS hSw; (try dsimp only at hSw); go_simp; (try with_reducible rfl); (try (first | (rw [if_pos (by omega)]; (try go_simp); (try with_reducible rfl)) | (rw [if_neg (by omega)]; (try go_simp); (try with_reducible rfl)))))
      try simp only [Act.put, zA, zB, zC]
      refine wpAnyR_takeQ (i := 4) (v := ?_) (some 21) rfl rfl (by kernel_rfl) (by kernel_rfl) (by kernel_rfl) (by kernel_rfl) (fun _ _ _ h => h) (Or.inl ⟨by rfl, ?_⟩) ?_
      rotate_left
      focus (intro wS hSw; (try dsimp only at hSw); go_simp; (try with_reducible rfl); (try (first | (rw [if_pos (by omega)]; (try go_simp); (try with_reducible rfl)) | (rw [if_neg (by omega)]; (try go_simp); (try with_reducible rfl)))))
      try simp only [Act.put, zA, zB, zC]
      refine wpAnyR_takeQ (i := 5) (v := ?_) (some 22) rfl rfl (by kernel_rfl) (by kernel_rfl) (by kernel_rfl) (by kernel_rfl) (fun _ _ _ h => h) (Or.inl ⟨by rfl, ?_⟩) ?_
      rotate_left
      focus (intro wS hSw; (try dsimp only at hSw); go_simp; (try with_reducible rfl); (try (first | (rw [if_pos (by omega)]; (try go_simp); (try with_reducible rfl)) | (rw [if_neg (by omega)]; (try go_simp); (try with_reducible rfl)))))
      try simp only [Act.put, zA, zB, zC]
      refine wpAnyR_takeQ (i := 6) (v := ?_) (some 23) rfl rfl (by kernel_rfl) (by kernel_rfl) (by kernel_rfl) (by kernel_rfl) (fun _ _ _ h => h) (Or.inl ⟨by rfl, ?_⟩) ?_
      rotate_left
      focus (intro wS hSw; (try dsimp only at hSw); go_simp; (try with_reducible rfl); (try (first | (rw [if_pos (by omega)]; (try go_simp); (try with_reducible rfl)) | (rw [if_neg (by omega)]; (try go_simp); (try with_reducible rfl)))))
      try simp only [Act.put, zA, zB, zC]
      refine wpAnyR_take (i := 7) (v := ?_) [8] (some 24) rfl rfl (by kernel_rfl) (by kernel_rfl) (by kernel_rfl) (by kernel_rfl) (by kernel_rfl) (by kernel_rfl) (by kernel_rfl) (fun _ _ _ h => h) (Or.inl ⟨by rfl, ?_⟩) hS ?_
      rotate_left
      focus (intro wS hSw; (try dsimp only at hSw); go_simp; (try with_reducible rfl); (try (first | (rw [if_pos (by omega)]; (try go_simp); (try with_reducible rfl)) | (rw [if_neg (by omega)]; (try go_simp); (try with_reducible rfl)))))
      try simp only [Act.put, zA, zB, zC]
      refine wpAnyR_takeQ (i := 8) (v := ?_) (some 25) rfl rfl (by kernel_rfl) (by kernel_rfl) (by kernel_rfl) (by kernel_rfl) (fun _ _ _ h => h) (Or.inl ⟨by rfl, ?_⟩) ?_
      rotate_left
      focus (intro wS hSw; (try dsimp only at hSw); go_simp; (try with_reducible rfl); (try (first | (rw [if_pos (by omega)]; (try go_simp); (try with_reducible rfl)) | (rw [if_neg (by omega)]; (try go_simp); (try with_reducible rfl)))))
      try simp only [Act.put, zA, zB, zC]
      refine wpAnyR_done (by kernel_rfl) ?_ _
      clear hS q0 q1 p0 p1
      go_wp2_with fail
      go_roundg (kf.length - (k + 1))
      case measure => rw [HGK.out]; omega
      case rel => exact ⟨k + 1, by omega, by omega, by go_num, HG.out.drew⟩
    · go_wp2_with fail
      go_ret
      exact ⟨rfl, HG.out⟩
end Go.Proofs.YtnlaogneceanoaaGreat
namespace Go.Proofs.YtnlaogneceanoaaGreat
set_option linter.unusedVariables false
set_option linter.unusedSimpArgs false
set_option linter.unusedSectionVars false
open Go.RowKit
attribute [local go_sem ↓] Go.wp_at_zero Go.wp_at_succ
theorem sec_valid (T : Tab) (h : (secT T).length ≠ 0) : validT T = true := by
  cases hv : validT T with
  | true => rfl
  | false => exfalso; apply h; unfold secT; rw [if_neg (by rw [hv]; simp)]; rfl
theorem sec_len (T : Tab) (h : (secT T).length ≠ 0) : (secT T).length = 8 * (T.labels.length + 1) := by
  have hv := sec_valid T h
  unfold secT
  rw [if_pos hv, cutS_len, body_size T hv _ (Nat.le_refl _)]
  omega
theorem sec_short (T : Tab) (hs : T.labels.length ≤ 1000) : (secT T).length ≤ 10000 := by
  by_cases h : (secT T).length = 0
  · omega
  · rw [sec_len T h]; omega
theorem sec_same (T U : Tab) (h1 : (secT T).length ≠ 0) (h2 : (secT U).length ≠ 0) (ht : T.tracks = U.tracks) : (secT T).length = (secT U).length := by
  have g1 := ((validT_iff T).1 (sec_valid T h1)).len
  have g2 := ((validT_iff U).1 (sec_valid U h2)).len
  rw [sec_len T h1, sec_len U h2]
  rw [ht] at g1
  omega
def diffP (X Y : List ByteArray) (k : Nat) : List (Int × ByteArray) := ((List.range k).filter fun i => decide (X.getD i ⟨#[]⟩ ≠ Y.getD i ⟨#[]⟩)).map fun (i : Nat) => ((i : Int), Y.getD i ⟨#[]⟩)
def diffT (T U : Tab) : List (Int × ByteArray) := if (secT T).length = (secT U).length ∧ T.tracks = U.tracks then diffP (secT T) (secT U) (secT T).length else []
theorem diffP_eq (X Y : List ByteArray) (k : Nat) (h1 : k < X.length) (h2 : k < Y.length) (h : X[k] = Y[k]) : diffP X Y (k + 1) = diffP X Y k := by
  unfold diffP
  rw [List.range_succ, List.filter_append, List.map_append]
  simp [List.getD_eq_getElem?_getD, List.getElem?_eq_getElem h1, List.getElem?_eq_getElem h2, h]
theorem diffP_ne (X Y : List ByteArray) (k : Nat) (h1 : k < X.length) (h2 : k < Y.length) (h : ¬ X[k] = Y[k]) : diffP X Y (k + 1) = diffP X Y k ++ [((k : Int), Y[k])] := by
  unfold diffP
  rw [List.range_succ, List.filter_append, List.map_append]
  simp [List.getD_eq_getElem?_getD, List.getElem?_eq_getElem h1, List.getElem?_eq_getElem h2, h]
theorem diffP_len (X Y : List ByteArray) (k : Nat) : (diffP X Y k).length ≤ k := by
  unfold diffP
  rw [List.length_map]
  have h9 := List.length_filter_le (fun i => decide (X.getD i ⟨#[]⟩ ≠ Y.getD i ⟨#[]⟩)) (List.range k)
  rw [List.length_range] at h9
  exact h9
theorem info_write : (Tryz.prog.info? 98).map (fun i => (i.zero, i.size, i.bytes)) = some (some (.agg #[.int .i64 0, .string ⟨#[]⟩]), 2, 24) := by kernel_rfl
end Go.Proofs.YtnlaogneceanoaaGreat
namespace Go.Proofs.YtnlaogneceanoaaGreat
set_option linter.unusedVariables false
set_option linter.unusedSimpArgs false
set_option linter.unusedSectionVars false
open Go.RowKit
/-- The strings of a list, one behind the other. -/
def catS (l : List ByteArray) : ByteArray := l.foldl (· ++ ·) ⟨#[]⟩
theorem catS_nil : catS [] = ⟨#[]⟩ := rfl
theorem fold_cat (l : List ByteArray) : ∀ a : ByteArray, l.foldl (· ++ ·) a = a ++ catS l := by
  induction l with
  | nil => intro a; exact ByteArray.append_empty.symm
  | cons x l ih =>
    intro a
    show l.foldl (· ++ ·) (a ++ x) = a ++ l.foldl (· ++ ·) (⟨#[]⟩ ++ x)
    rw [ih (a ++ x), ih (⟨#[]⟩ ++ x), ByteArray.append_assoc]
    congr 2
theorem catS_cons (x : ByteArray) (l : List ByteArray) : catS (x :: l) = x ++ catS l := by
  show l.foldl (· ++ ·) (⟨#[]⟩ ++ x) = _
  rw [fold_cat]
  congr 1
theorem catS_snoc (l : List ByteArray) (x : ByteArray) : catS (l ++ [x]) = catS l ++ x := by unfold catS; rw [List.foldl_append]; rfl
theorem catS_size (m : Nat) (l : List ByteArray) (h : ∀ x ∈ l, x.size ≤ m) : (catS l).size ≤ m * l.length := by
  induction l with
  | nil => exact Nat.zero_le _
  | cons x l ih =>
    have h1 := ih (fun y hy => h y (List.mem_cons_of_mem _ hy))
    have h2 := h x (List.mem_cons_self ..)
    rw [catS_cons, ByteArray.size_append, List.length_cons, Nat.mul_add]
    omega
theorem cutS_one (x : ByteArray) (h : x.size = 128) : cutS x = [x] := by
  unfold cutS
  rw [h]
  simp only [show 128 / 128 = 1 from rfl, List.range_one, List.map_cons, List.map_nil, Nat.mul_zero, Nat.zero_add]
  rw [← h]
  simp
theorem cut_cat (l : List ByteArray) (h : ∀ x ∈ l, x.size = 128) : cutS (catS l) = l := by
  induction l with
  | nil => rfl
  | cons x l ih =>
    have hx := h x (List.mem_cons_self ..)
    rw [catS_cons, cutS_app _ _ (by rw [hx]), ih (fun y hy => h y (List.mem_cons_of_mem _ hy)), cutS_one x hx]
    rfl
theorem cutS_mem (s : ByteArray) : ∀ x ∈ cutS s, x.size = 128 := by
  intro x hx
  obtain ⟨i, hi, rfl⟩ := List.getElem_of_mem hx
  rw [cutS_len] at hi
  rw [cutS_get, ByteArray.size_extract]
  omega
theorem cat_take (s : ByteArray) : ∀ k, 128 * k ≤ s.size → catS ((cutS s).take k) = s.extract 0 (128 * k) := by
  intro k
  induction k with
  | zero => intro _; simp [catS]; rfl
  | succ k ih =>
    intro hk
    rw [cutS_take s k (by omega), catS_snoc, ih (by omega)]
    rw [ByteArray.extract_append_extract]
    congr 1 <;> omega
theorem cat_cut (s : ByteArray) (h : s.size % 128 = 0) : catS (cutS s) = s := by
  have h1 := cat_take s (s.size / 128) (by omega)
  rw [List.take_of_length_le (by rw [cutS_len]; omega)] at h1
  rw [h1]
  have : 128 * (s.size / 128) = s.size := by omega
  rw [this]
  simp
/-- The track that starts at sector 8 n. -/
def trkS (ss : List ByteArray) (n : Nat) : ByteArray := catS ((ss.drop (8 * n)).take 8)
theorem trkS_size (m : Nat) (ss : List ByteArray) (n : Nat) (h : ∀ x ∈ ss, x.size ≤ m) : (trkS ss n).size ≤ m * 8 := by
  unfold trkS
  have h1 := catS_size m ((ss.drop (8 * n)).take 8) (fun x hx => h x (List.mem_of_mem_drop (List.mem_of_mem_take hx)))
  have h2 : ((ss.drop (8 * n)).take 8).length ≤ 8 := by rw [List.length_take]; omega
  exact Nat.le_trans h1 (Nat.mul_le_mul_left m h2)
theorem sec_split (T : Tab) (hv : validT T = true) : ∀ d k, k + d = T.labels.length → ∃ R, cutS (bodyS T T.labels.length) = cutS (bodyS T k) ++ R := by
  intro d
  induction d with
  | zero => intro k hk; exact ⟨[], by rw [List.append_nil]; congr 2; omega⟩
  | succ d ih =>
    intro k hk
    obtain ⟨R, hR⟩ := ih (k + 1) (by omega)
    rw [hR, cut_next T hv k (by omega), List.append_assoc]
    exact ⟨_, rfl⟩
theorem sec_facts (T : Tab) (hv : validT T = true) (ss : List ByteArray) (h : secT T = ss) :
    ss.length = 8 * (T.labels.length + 1) ∧ (∀ x ∈ ss, x.size = 128) ∧ trkS ss 0 = headS T.name T.tracks ∧ ∀ k (hk : k < T.labels.length), trkS ss (k + 1) = encS T.labels[k] T.tracks := by
  unfold secT at h
  rw [if_pos hv] at h
  subst h
  refine ⟨by rw [cutS_len, body_size T hv _ (Nat.le_refl _)]; omega, cutS_mem _, ?_, fun k hk => ?_⟩
  · obtain ⟨R, hR⟩ := sec_split T hv T.labels.length 0 (by omega)
    have h1 := head_1024 T hv
    unfold trkS
    rw [hR, bodyS_zero, Nat.mul_zero, List.drop_zero, List.take_append_of_le_length (by rw [cutS_len, h1]; decide), List.take_of_length_le (by rw [cutS_len, h1]; decide), cat_cut _ (by rw [h1])]
  · obtain ⟨R, hR⟩ := sec_split T hv (T.labels.length - (k + 1)) (k + 1) (by omega)
    have h1 := body_size T hv k (by omega)
    have h2 := lab_1024 T.tracks ((validT_iff T).1 hv).tr T.labels[k] (((validT_iff T).1 hv).ok _ (List.getElem_mem hk))
    unfold trkS
    rw [hR, cut_next T hv k hk, List.append_assoc, List.drop_append_of_le_length (by rw [cutS_len, h1]; omega), List.drop_of_length_le (by rw [cutS_len, h1]; omega), List.nil_append]
    rw [List.take_append_of_le_length (by rw [cutS_len, h2]; decide), List.take_of_length_le (by rw [cutS_len, h2]; decide), cat_cut _ (by rw [h2])]
theorem head_trip (n : ByteArray) (t : Int) (hn : nameOk n = true) (ht : okT t = true) : headP (headS n t) = (n, t, 0) := by
  have hp : NameP n := of_decide_eq_true hn
  have hb := okT_true ht
  have hl : n.data.toList.length = n.size := Array.length_toList
  have e0 : headS n t = ⟨(enc n.data.toList.length ++ (n.data.toList ++ (enc t.toNat ++ List.replicate (1024 - (eB n.size ++ n ++ eB t.toNat).size) 0))).toArray⟩ := by
    unfold headS
    rw [if_pos ⟨hn, ht⟩]
    apply bytes_eq
    unfold padS zeros
    rw [hl]
    simp only [ByteArray.data_append, Array.toList_append, Array.toList_replicate, List.append_assoc]
    rfl
  have q1 := (congrArg hdN e0).trans (RTxt_app n.data.toList _ 8 (by have := hp.2.1; omega) (by have := hp.2.1; omega))
  have q2 : hdT (headS n t) = RCnt (hdN (headS n t)).2.1 (hdN (headS n t)).2.2 128 := rfl
  rw [q1] at q2
  have q2 := q2.trans (RCnt_app t.toNat _ 128 (by omega) (by omega))
  have hN : (hdN (headS n t)).1 = n := by rw [q1]
  have hT : ((hdT (headS n t)).1 : Int) = t := by rw [q2]; exact Int.toNat_of_nonneg (by omega)
  have hE : hdE (headS n t) = headS n t := by unfold hdE; rw [hN, hT]
  have hz : headS n t ≠ ⟨#[]⟩ := fun e => by
    have h1 : (headS n t).size = 1024 := by
      unfold headS
      rw [if_pos ⟨hn, ht⟩]
      refine padS_size _ _ ?_
      have := hp.2.1
      have z1 := eB_size n.size
      have z2 := eB_size t.toNat
      rw [ByteArray.size_append, ByteArray.size_append]
      omega
    rw [e] at h1
    exact absurd h1 (by decide)
  unfold headP
  rw [hE, if_neg (fun h => h.elim hz (fun h => h rfl)), hN, hT]
theorem lab_trip (l : Lab) (t : Int) (ht : okT t = true) (h : emL l = true ∨ validL l t = true) : decP (encS l t) t = (l, 0) := by
  rcases h with h | h
  · rw [(emL_iff l).1 h]
    have e1 : encS labZ t = padS 1024 ⟨#[]⟩ := by unfold encS; rw [if_pos ⟨ht, (eqL_iff _ _).2 rfl⟩]
    have e2 : (padS 1024 ⟨#[]⟩).size = 1024 := padS_size _ _ (by decide)
    unfold decP
    rw [e1, if_neg (by rw [ht, e2]; simp), if_pos rfl]
  · exact dec_enc_lab l t h (encS_size l t h)
/-- The tables with these sectors. -/
def SecOf (ss : List ByteArray) (T : Tab) : Prop := validT T = true ∧ secT T = ss
theorem SecOf.head {ss : List ByteArray} {T : Tab} (h : SecOf ss T) : headP (trkS ss 0) = (T.name, T.tracks, 0) := by
  have hg := (validT_iff T).1 h.1
  rw [(sec_facts T h.1 ss h.2).2.2.1, head_trip _ _ hg.nm hg.tr]
theorem SecOf.lab {ss : List ByteArray} {T : Tab} (h : SecOf ss T) (k : Nat) (hk : k < T.labels.length) : decP (trkS ss (k + 1)) T.tracks = (T.labels[k], 0) := by
  have hg := (validT_iff T).1 h.1
  rw [(sec_facts T h.1 ss h.2).2.2.2 k hk, lab_trip _ _ hg.tr (hg.ok _ (List.getElem_mem hk))]
theorem SecOf.unique {ss : List ByteArray} {T U : Tab} (h : SecOf ss T) (g : SecOf ss U) : T = U := by
  have e := h.head.symm.trans g.head
  injection e with e1 e2
  injection e2 with e2 e3
  have hl : T.labels.length = U.labels.length := by
    have g1 := (sec_facts T h.1 ss h.2).1
    have g2 := (sec_facts U g.1 ss g.2).1
    omega
  have hL : T.labels = U.labels := by
    refine List.ext_getElem hl (fun k h1 h2 => ?_)
    have p1 := h.lab k h1
    have p2 := g.lab k h2
    rw [e2] at p1
    exact congrArg Prod.fst (p1.symm.trans p2)
  cases T; cases U
  simp only at e1 e2 hL
  rw [e1, e2, hL]
/-- What Load returns: the table with these sectors, or an error. -/
def LdS (ss : List ByteArray) (T : Tab) (er : Int) : Prop := (SecOf ss T ∧ er = 0) ∨ ((∀ U, ¬ SecOf ss U) ∧ T = tabZ ∧ er = 11)
theorem LdS.unique {ss : List ByteArray} {T U : Tab} {e f : Int} (h : LdS ss T e) (g : LdS ss U f) : T = U ∧ e = f := by
  rcases h with ⟨h1, h2⟩ | ⟨h1, h2, h3⟩
  · rcases g with ⟨g1, g2⟩ | ⟨g1, _⟩
    · exact ⟨h1.unique g1, by rw [h2, g2]⟩
    · exact absurd h1 (g1 T)
  · rcases g with ⟨g1, _⟩ | ⟨_, g2, g3⟩
    · exact absurd g1 (h1 U)
    · exact ⟨by rw [h2, g2], by rw [h3, g3]⟩
end Go.Proofs.YtnlaogneceanoaaGreat
namespace Go.Proofs.YtnlaogneceanoaaGreat
set_option linter.unusedVariables false
set_option linter.unusedSimpArgs false
set_option linter.unusedSectionVars false
open Go.RowKit
theorem catS_app (a b : List ByteArray) : catS (a ++ b) = catS a ++ catS b := by
  induction a with
  | nil => exact ByteArray.empty_append.symm
  | cons x a ih => rw [List.cons_append, catS_cons, catS_cons, ih, ByteArray.append_assoc]
/-- The tracks behind k sectors, and the same with one for the next sector. -/
def trkL (ss : List ByteArray) (k : Nat) : List ByteArray := (List.range ((k + 7) / 8)).map fun n => trkS (ss.take k) n
def trkY (ss : List ByteArray) (k : Nat) : List ByteArray := (List.range (k / 8 + 1)).map fun n => trkS (ss.take k) n
theorem trkL_len (ss : List ByteArray) (k : Nat) : (trkL ss k).length = (k + 7) / 8 := by unfold trkL; simp
theorem trkY_len (ss : List ByteArray) (k : Nat) : (trkY ss k).length = k / 8 + 1 := by unfold trkY; simp
theorem trkL_get (ss : List ByteArray) (k i : Nat) (h : i < (trkL ss k).length) : (trkL ss k)[i] = trkS (ss.take k) i := by simp [trkL]
theorem trkY_get (ss : List ByteArray) (k i : Nat) (h : i < (trkY ss k).length) : (trkY ss k)[i] = trkS (ss.take k) i := by simp [trkY]
theorem trkS_take (ss : List ByteArray) (k n : Nat) : trkS (ss.take k) n = catS ((ss.drop (8 * n)).take (min 8 (k - 8 * n))) := by
  unfold trkS
  rw [List.drop_take, List.take_take]
theorem trkY_new (ss : List ByteArray) (k : Nat) (h : k % 8 = 0) : trkY ss k = trkL ss k ++ [⟨#[]⟩] := by
  unfold trkY trkL
  have e : (k + 7) / 8 = k / 8 := by omega
  rw [e, List.range_succ, List.map_append, List.map_cons, List.map_nil, trkS_take]
  have e2 : min 8 (k - 8 * (k / 8)) = 0 := by omega
  rw [e2, List.take_zero, catS_nil]
theorem trkY_old (ss : List ByteArray) (k : Nat) (h : ¬ k % 8 = 0) : trkY ss k = trkL ss k := by
  unfold trkY trkL
  have e : (k + 7) / 8 = k / 8 + 1 := by omega
  rw [e]
theorem trkL_next (ss : List ByteArray) (k : Nat) (hk : k < ss.length) (h : k / 8 < (trkY ss k).length) : trkL ss (k + 1) = (trkY ss k).set (k / 8) ((trkY ss k)[k / 8] ++ ss[k]) := by
  refine List.ext_getElem (by rw [List.length_set, trkL_len, trkY_len]; omega) (fun i h1 h2 => ?_)
  rw [trkL_len] at h1
  rw [List.getElem_set]
  by_cases hi : k / 8 = i
  · subst hi
    rw [if_pos rfl]
    rw [trkL_get, trkY_get, trkS_take, trkS_take]
    have e1 : min 8 (k + 1 - 8 * (k / 8)) = (k - 8 * (k / 8)) + 1 := by omega
    have e2 : min 8 (k - 8 * (k / 8)) = k - 8 * (k / 8) := by omega
    rw [e1, e2, List.take_succ_eq_append_getElem (by rw [List.length_drop]; omega), catS_snoc, List.getElem_drop]
    congr 2
    omega
  · rw [if_neg hi]
    rw [trkL_get, trkY_get, trkS_take, trkS_take]
    have e1 : min 8 (k + 1 - 8 * i) = 8 := by omega
    have e2 : min 8 (k - 8 * i) = 8 := by omega
    rw [e1, e2]
theorem trkL_all (ss : List ByteArray) (m : Nat) (h : ss.length = 8 * m) : trkL ss ss.length = (List.range m).map (trkS ss) := by
  unfold trkL
  rw [List.take_length]
  congr 2
  omega
theorem trkY_size (ss : List ByteArray) (k : Nat) (h : ∀ x ∈ ss, x.size ≤ 1000) : ∀ y ∈ trkY ss k, y.size ≤ 8000 := by
  intro y hy
  unfold trkY at hy
  obtain ⟨n, _, rfl⟩ := List.mem_map.1 hy
  exact trkS_size 1000 _ n (fun x hx => h x (List.mem_of_mem_take hx))
theorem body_cat (ss : List ByteArray) (n : ByteArray) (t : Int) (ls : List Lab) (hh : headS n t = trkS ss 0) (hd : ∀ k (hk : k < ls.length), encS ls[k] t = trkS ss (k + 1)) :
    ∀ k, k ≤ ls.length → bodyS ⟨n, t, ls⟩ k = catS (ss.take (8 * (k + 1))) := by
  intro k
  induction k with
  | zero => intro _; rw [bodyS_zero]; show headS n t = _; rw [hh]; unfold trkS; simp
  | succ k ih =>
    intro hk
    rw [bodyS_next ⟨n, t, ls⟩ k hk, ih (by omega)]
    show _ ++ encS ls[k] t = _
    rw [hd k hk]
    unfold trkS
    rw [← catS_app]
    congr 1
    have e : 8 * (k + 1 + 1) = 8 * (k + 1) + 8 := by omega
    rw [e, List.take_add]
theorem load_ok (ss : List ByteArray) (n : ByteArray) (t : Int) (ls : List Lab) (h128 : ∀ x ∈ ss, x.size = 128) (hlen : ss.length = 8 * (ls.length + 1)) (hh : headP (trkS ss 0) = (n, t, 0))
    (hd : ∀ k (hk : k < ls.length), decP (trkS ss (k + 1)) t = (ls[k], 0)) (hv : validT ⟨n, t, ls⟩ = true) : SecOf ss ⟨n, t, ls⟩ := by
  refine ⟨hv, ?_⟩
  have h1 : headS n t = trkS ss 0 := by
    rcases head_strict (trkS ss 0) with h | ⟨n', t', h, g, _⟩
    · rw [hh] at h; exact absurd (congrArg (fun x => x.2.2) h) (by decide : ¬ ((0 : Int) = 11))
    · rw [hh] at h
      injection h with h2 h3
      injection h3 with h3 _
      rw [h2, h3]; exact g
  have h2 : ∀ k (hk : k < ls.length), encS ls[k] t = trkS ss (k + 1) := fun k hk => by
    rcases dec_strict_lab (trkS ss (k + 1)) t with ⟨_, h⟩ | h
    · rw [hd k hk] at h; exact h
    · rw [hd k hk] at h; exact absurd (congrArg (fun x => x.2) h) (by decide : ¬ ((0 : Int) = 11))
  unfold secT
  rw [if_pos hv, body_cat ss n t ls h1 h2 _ (Nat.le_refl _)]
  show cutS (catS (ss.take (8 * (ls.length + 1)))) = ss
  rw [← hlen, List.take_length, cut_cat ss h128]
theorem SecOf.is {ss : List ByteArray} {U : Tab} (h : SecOf ss U) {n : ByteArray} {t : Int} {ls : List Lab} (hh : headP (trkS ss 0) = (n, t, 0)) (hl : (ls.length : Int) = slotsS t)
    (hd : ∀ k (hk : k < ls.length), decP (trkS ss (k + 1)) t = (ls[k], 0)) : U = ⟨n, t, ls⟩ := by
  have e := h.head.symm.trans hh
  injection e with e1 e2
  injection e2 with e2 e3
  have hU := ((validT_iff U).1 h.1).len
  rw [e2] at hU
  have hl2 : U.labels.length = ls.length := by omega
  have hL : U.labels = ls := by
    refine List.ext_getElem hl2 (fun k h1 h2 => ?_)
    have p1 := h.lab k h1
    rw [e2] at p1
    exact congrArg Prod.fst (p1.symm.trans (hd k h2))
  cases U
  simp only at e1 e2 hL
  rw [e1, e2, hL]
theorem LdS.no {ss : List ByteArray} (h : ∀ U, SecOf ss U → False) : LdS ss tabZ 11 := .inr ⟨h, rfl, rfl⟩
theorem ld_128 (ss : List ByteArray) (k : Nat) (hk : k < ss.length) (h : ¬ ss[k].size = 128) : LdS ss tabZ 11 := LdS.no fun U hU => h ((sec_facts U hU.1 ss hU.2).2.1 _ (List.getElem_mem hk))
theorem ld_len (ss : List ByteArray) (h : ss.length = 0 ∨ ¬ ss.length % 8 = 0) : LdS ss tabZ 11 := LdS.no fun U hU => by have := (sec_facts U hU.1 ss hU.2).1; omega
theorem ld_head (ss : List ByteArray) (h : headP (trkS ss 0) = (⟨#[]⟩, 0, 11)) : LdS ss tabZ 11 := LdS.no fun U hU => by
  have e := hU.head
  rw [h] at e
  exact absurd (congrArg (fun x => x.2.2) e) (by decide : ¬ ((11 : Int) = 0))
theorem slots_len (U : Tab) (h : validT U = true) : (U.labels.length : Int) + 1 = ttS U.tracks := by
  have h1 := ((validT_iff U).1 h).len
  have h2 := ((validT_iff U).1 h).tr
  have h3 := okT_true h2
  unfold slotsS at h1
  unfold ttS at h1 ⊢
  rw [if_pos h2] at h1 ⊢
  omega
theorem ld_table (ss : List ByteArray) (n : ByteArray) (t : Int) (hh : headP (trkS ss 0) = (n, t, 0)) (h : ¬ ((ss.length / 8 : Nat) : Int) = ttS t) : LdS ss tabZ 11 := LdS.no fun U hU => by
  have e := hU.head.symm.trans hh
  have h1 := slots_len U hU.1
  have et : U.tracks = t := congrArg (fun x => x.2.1) e
  rw [et] at h1
  have h2 := (sec_facts U hU.1 ss hU.2).1
  omega
theorem ld_dec (ss : List ByteArray) (n : ByteArray) (t : Int) (hh : headP (trkS ss 0) = (n, t, 0)) (k : Nat) (hk : (k : Int) + 1 < ttS t) (h : decP (trkS ss (k + 1)) t = (labZ, 11)) : LdS ss tabZ 11 := LdS.no fun U hU => by
  have e := hU.head.symm.trans hh
  have et : U.tracks = t := congrArg (fun x => x.2.1) e
  have h1 := slots_len U hU.1
  rw [et] at h1
  have h2 := hU.lab k (by omega)
  rw [et, h] at h2
  exact absurd (congrArg (fun x => x.2) h2) (by decide : ¬ ((11 : Int) = 0))
theorem ld_end (ss : List ByteArray) (n : ByteArray) (t : Int) (ls : List Lab) (hh : headP (trkS ss 0) = (n, t, 0)) (hl : (ls.length : Int) = slotsS t) (hd : ∀ k (hk : k < ls.length), decP (trkS ss (k + 1)) t = (ls[k], 0))
    (h : ¬ (validT ⟨n, t, ls⟩ = true ∧ secT ⟨n, t, ls⟩ = ss)) : LdS ss tabZ 11 := LdS.no fun U hU => by
  have e := hU.is hh hl hd
  subst e
  exact h hU
theorem dec_snoc {ss : List ByteArray} {t : Int} {ls : List Lab} {l : Lab} (h : ∀ j (hj : j < ls.length), decP (trkS ss (j + 1)) t = (ls[j], 0)) (hl : decP (trkS ss (ls.length + 1)) t = (l, 0)) :
    ∀ j (hj : j < (ls ++ [l]).length), decP (trkS ss (j + 1)) t = ((ls ++ [l])[j], 0) := by
  intro j hj
  rw [List.length_append, List.length_singleton] at hj
  by_cases hjl : j < ls.length
  · rw [List.getElem_append_left hjl]
    exact h j hjl
  · have e : j = ls.length := by omega
    subst e
    rw [List.getElem_append_right (Nat.le_refl _)]
    simpa using hl
theorem ext_snoc {ls : List Lab} {l : Lab} (h : ∀ x ∈ ls, x.ext.length ≤ 1000) (hl : l.ext.length ≤ 1000) : ∀ x ∈ ls ++ [l], x.ext.length ≤ 1000 := by
  intro x hx
  rcases List.mem_append.1 hx with hx | hx
  · exact h x hx
  · rw [List.mem_singleton.1 hx]; exact hl
end Go.Proofs.YtnlaogneceanoaaGreat
