/- Chapter 3: change. -/
import Derived.Test.YtklojcgbokmkhaaDevC
import Derived.Test.YtklojcgbokmkhaaApp
namespace Go.Proofs.Ytklojcgbokmkhaa
set_option linter.unusedVariables false
set_option linter.unusedSimpArgs false
set_option linter.unusedSectionVars false
open Go.RowKit
open Go.Maps (Keyed)
attribute [local go_sem ↓] Go.wp_at_zero Go.wp_at_succ
theorem OwnL.lit (w : World) (base e sz : Nat) (row : List Value) (hr : row.length = sz) (hb : base ≤ w.heap.size) {n : Nat} (hn : n = w.heap.size) : OwnL (w.alloc (.cells row.toArray e)) base e sz (.slice (some ⟨n, 0, none⟩) 1 1) [row] := by
  subst hn
  refine ⟨fun r h => by rw [List.mem_singleton.1 h]; exact hr, ?_⟩
  have := World.ownsRow_lit (e := e) (size := sz) w row.toArray 1 hb (by decide) (by simp; omega)
  simpa using this
theorem info_str : (Try.prog.info? 9).map (fun i => (i.zero, i.size, i.bytes)) = some (some (.string ⟨#[]⟩), 1, 16) := by kernel_rfl
theorem strC_row (l : List ByteArray) : ∀ r ∈ l.map strC, r.length = 1 := by intro r h; obtain ⟨x, _, rfl⟩ := List.mem_map.1 h; rfl
theorem strC_one (l : List ByteArray) : ∀ r ∈ l.map strC, r.all (·.oneCell') = true := by intro r h; obtain ⟨x, _, rfl⟩ := List.mem_map.1 h; rfl
theorem strC_len (l : List ByteArray) : (l.map strC).length = l.length := List.length_map ..
theorem toL_inj {a b : ByteArray} (h : a.toList = b.toList) : a = b := by
  rw [ByteArray.toList_eq, ByteArray.toList_eq] at h
  cases a; cases b
  congr 1
  exact Array.toList_inj.1 h
theorem str_eq {a b : ByteArray} (h : a = b) : (a.toList == b.toList) = true := by rw [h]; exact beq_self_eq_true _
theorem str_ne {a b : ByteArray} (h : ¬ a = b) : (a.toList == b.toList) = false := beq_eq_false_iff_ne.2 (fun e => h (toL_inj e))
section
variable {w : World} {q : DevP} {D : Dev}
theorem DevM.store_st (h : DevM w q D) {g cap : Nat} (hv : q.vs = .slice (some ⟨g, 0, none⟩) D.st.length cap) {i : Nat} (hi : i < D.st.length) {s : ByteArray} (hs : s.size = 140) :
    DevM (w.setCell ⟨g, i, none⟩ (.string s)) q { D with st := D.st.set i s } := by
  have hvb : q.vs.ownBlock = some g := by rw [hv]; rfl
  have hgx : ¬ q.x = g := fun e => h.st.ne_blk h.blk (by decide) (by rw [hvb, e])
  have hgm : q.m ≠ g := fun e => own_map_ne h.st h.map (by rw [hvb, e])
  refine ⟨h.blk.far (p := ⟨g, i, none⟩) hgx _, ?_, h.old.far (p := ⟨g, i, none⟩) (own_own_ne h.st h.old (by decide) g hvb) _, h.olen, fun j v l hjv hjl => ?_, h.pend.far (p := ⟨g, i, none⟩) (own_own_ne h.st h.pend (by decide) g hvb) _, h.sv.far (p := ⟨g, i, none⟩) (own_own_ne h.st h.sv (by decide) g hvb) _,
    h.map.far (p := ⟨g, i, none⟩) hgm _, h.fen, h.fuse, h.left, h.svok, ?_⟩
  · have h1 := h.st
    rw [hv] at h1
    have h2 := h1.set_ (j := i) (i := 0) (o := i) (r := strC (D.at i)) (by rw [List.getElem?_map, List.getElem?_eq_getElem hi]; unfold Dev.at; rw [List.getD_eq_getElem?_getD, List.getElem?_eq_getElem hi]; rfl) (by omega) (by omega) (.string s)
    rw [← hv] at h2
    show OwnL _ _ _ _ _ ((D.st.set i s).map strC)
    rw [List.map_set]
    exact h2
  · obtain ⟨h1, h2⟩ := h.each j v l hjv hjl
    exact ⟨h1.far (p := ⟨g, i, none⟩) (fun e => h2 g e hvb) _, h2⟩
  · refine ⟨by simp [h.ok.len], by simp [h.ok.pos], by simpa using h.ok.lim, ?_, h.ok.old, fun r hr => by simpa using h.ok.pend r hr, h.ok.fen⟩
    intro t ht
    rcases List.mem_or_eq_of_mem_set ht with ht | rfl
    · exact h.ok.st t ht
    · exact hs
theorem DevM.store_old (h : DevM w q D) {g cap : Nat} (hv : q.vo = .slice (some ⟨g, 0, none⟩) D.st.length cap) {i : Nat} (hi : i < D.st.length) {v : Value} {l : List ByteArray} (hown : OwnL w 0 9 1 v (l.map strC)) (hne : ∀ g, v.ownBlock = some g → q.vs.ownBlock ≠ some g) (hl : l.length ≤ 8 ∧ ∀ s ∈ l, s.size = 140) :
    DevM (w.setCell ⟨g, i, none⟩ v) { q with os := q.os.set i v } { D with old := D.old.set i l } := by
  have hvb : q.vo.ownBlock = some g := by rw [hv]; rfl
  have hgx : ¬ q.x = g := fun e => h.old.ne_blk h.blk (by decide) (by rw [hvb, e])
  have hgm : q.m ≠ g := fun e => own_map_ne h.old h.map (by rw [hvb, e])
  have hio : i < q.os.length := by rw [h.olen, h.ok.len]; exact hi
  refine ⟨h.blk.far (p := ⟨g, i, none⟩) hgx _, h.st.far (p := ⟨g, i, none⟩) (own_own_ne h.old h.st (by decide) g hvb) _, ?_, by simp [h.olen], fun j v' l' hjv hjl => ?_, h.pend.far (p := ⟨g, i, none⟩) (own_own_ne h.old h.pend (by decide) g hvb) _, h.sv.far (p := ⟨g, i, none⟩) (own_own_ne h.old h.sv (by decide) g hvb) _,
    h.map.far (p := ⟨g, i, none⟩) hgm _, h.fen, h.fuse, h.left, h.svok, ?_⟩
  · have h1 := h.old
    rw [hv] at h1
    have h2 := h1.set_ (j := i) (i := 0) (o := i) (r := [q.os[i]]) (by rw [List.getElem?_map, List.getElem?_eq_getElem hio]; rfl) (by omega) (by omega) v
    rw [← hv] at h2
    show OwnL _ _ _ _ _ ((q.os.set i v).map fun v => [v])
    rw [List.map_set]
    exact h2
  · simp only at hjv hjl
    by_cases hij : i = j
    · subst hij
      rw [List.getElem?_set_self hio] at hjv
      rw [List.getElem?_set_self (by rw [← h.olen]; exact hio)] at hjl
      injection hjv with hjv; injection hjl with hjl
      subst hjv; subst hjl
      exact ⟨hown.far (p := ⟨g, i, none⟩) (own_own_ne h.old hown (by decide) g hvb) _, hne⟩
    · rw [List.getElem?_set_ne hij] at hjv hjl
      obtain ⟨h1, h2⟩ := h.each j v' l' hjv hjl
      exact ⟨h1.far (p := ⟨g, i, none⟩) (own_own_ne h.old h1 (by decide) g hvb) _, h2⟩
  · refine ⟨by simp [h.ok.len], h.ok.pos, h.ok.lim, h.ok.st, ?_, h.ok.pend, h.ok.fen⟩
    intro t ht
    rcases List.mem_or_eq_of_mem_set ht with ht | rfl
    · exact h.ok.old t ht
    · exact hl
set_option maxRecDepth 100000 in
set_option maxHeartbeats 4000000 in
theorem change_any (h : DevM w q D) {i : Nat} (hi : i < D.st.length) (s : ByteArray) (hs : s.size = 140) :
    Calls Try.prog 56 #[.pointer (some ⟨q.x, 0, none⟩), .int .i64 (i : Int), .string s] w fun e w' => e = .returned (.tuple #[]) ∧ ∃ os', DevM w' { q with os := os' } (changeD D i s) ∧ Turned (fun k => q.vs.ownBlock = some k ∨ q.vo.ownBlock = some k) w w' ∧ ∀ v ∈ os', v ∈ q.os ∨ ∃ g, v.ownBlock = some g ∧ w.heap.size ≤ g := by
  obtain ⟨gs, cs, hvs, hgs, hs1, hs2, hs3⟩ := h.st_form
  obtain ⟨go, co, hvo, hgo, ho1, ho2, ho3⟩ := h.old_form
  have y0 := h.st_cell hvs hi
  have hk := h.blk
  have HH := Lib.hid h
  rw [hvs, hvo] at hk
  have hxl := hk.lt
  have x0 := hk.cell 0
  by_cases heq : D.at i = s
  · have HC := Lib.hid (show changeD D i s = D from by unfold changeD; rw [if_pos heq])
    have heb := str_eq heq
    generalize D.at i = a at *
    clear h hvs hvo heq hk
    go_enter Try.func56, Try.ntmps56
    go_wp2_with fail
    refine bodyPost_ret (results_none rfl _ _ _) rfl ?_
    exact ⟨rfl, q.os, by rw [HC.out]; exact HH.out, Turned.refl _ _, fun v hv => .inl hv⟩
  · obtain ⟨vi, hvi, howni, hnei⟩ := h.old_at hi
    have z0 := h.old_cell hvo hvi
    have heb := str_ne heq
    have HC := Lib.hid (show changeD D i s = { D with st := D.st.set i s, old := D.old.set i ((D.at i :: D.olds i).take 8) } from by unfold changeD; rw [if_neg heq])
    have HVS := Lib.hid hvs
    have HVO := Lib.hid hvo
    have hol := olds_len h.ok i
    have HOL := Lib.hid (show ∀ t ∈ D.at i :: D.olds i, t.size = 140 from fun t ht => by
      rcases List.mem_cons.1 ht with rfl | ht
      · exact at_size h.ok hi
      · exact olds_size h.ok i t ht)
    generalize D.at i = a at *
    generalize D.olds i = ol at *
    obtain ⟨Ai, ci, rfl, hci, hci2, hli⟩ := howni.listAt
    rw [strC_len] at z0 hci
    have hg0 := (Grew.refl w).alloc (.cells #[.string a] 9)
    have hlit := OwnL.lit w 0 9 1 (strC a) rfl (Nat.zero_le _) rfl
    have hli2 := (hli.keep (Nat.le_refl _) hg0).mono hg0.size
    have hk0 := hk.alloc (.cells #[.string a] 9)
    have HL := Lib.hid hli2
    have HG := Lib.hid hg0
    have HKB := Lib.hid hk
    have z1 := (hg0.cellEq _ _ hgo).trans z0
    have x1 := hk0.cell 1
    clear h hvs hvo heq hk hvi hnei howni hli hli2 hg0 hk0
    go_enter Try.func56, Try.ntmps56
    go_wp2_with (at_builtin; refine wpList_pushAll (by rfl) _ _ 27 rfl 0 9 1 16 _ Try.underlying27 info_str rfl (by decide) _ [strC a] (ol.map strC) (by rfl) hlit _ ol.length _ (by rfl) (strC_len _).symm (strC_row _) HL.out (strC_one _) (by simp; omega) (by simp; omega) (Nat.zero_le _) ?_; intro v1 w1 hown1 hgr1 hat1)
    have hr1 : ∀ k, (Value.slice (some ⟨w.heap.size, 0, none⟩) 1 1).ownBlock = some k → w.heap.size ≤ k := fun k hk => by simp [Value.ownBlock] at hk; omega
    have hg1 : Grew w w1 := Grew.own HG.out hgr1 hr1 (Nat.le_refl _)
    obtain ⟨g1, c1, rfl, _, hg1l, hc1, hc12⟩ : ∃ g c, v1 = .slice (some ⟨g, 0, none⟩) (ol.length + 1) c ∧ w.heap.size ≤ g ∧ g < w1.heap.size ∧ ol.length + 1 ≤ c ∧ c ≤ 9223372036854775807 := by
      rcases hown1.form with ⟨_, h0⟩ | ⟨g, c, hv, _, hlt, h1, h2⟩
      · exact absurd h0 (by simp)
      · have hll : ([strC a] ++ ol.map strC).length = ol.length + 1 := by simp
        rw [hll] at hv h1
        refine ⟨g, c, hv, ?_, hlt, h1, h2⟩
        rcases hat1 with h9 | h9
        · rw [hv] at h9; simp [Value.ownBlock] at h9; omega
        · rw [hv] at h9; simp [Value.ownBlock] at h9; omega
    have HG1 := Lib.hid hg1
    have x1' := (hg1.cellEq _ _ hxl).trans (HKB.out.cell 1)
    have x0' := (hg1.cellEq _ _ hxl).trans x0
    have z2 := (hg1.cellEq _ _ hgo).trans z0
    have hmn : (min (8 : Nat) (ol.length + 1) : Nat) ≤ ol.length + 1 := Nat.min_le_right _ _
    have HSH := Lib.hid (hown1.shrink hmn)
    clear hgr1 hat1 hr1 hg1 hown1 hlit z1 x1
    refine wp_region_R [11] (fun w' : World => w'.cell? ⟨q.x, 1, none⟩ = some (.slice (some ⟨go, 0, none⟩) D.st.length co)) (by kernel_rfl) ?_
    have hS := (show (fun w' : World => w'.cell? ⟨q.x, 1, none⟩ = some (.slice (some ⟨go, 0, none⟩) D.st.length co)) w1.drew from x1')
    refine wpAnyR_takeQ (i := 0) (v := ?_) (some 28) rfl rfl (by kernel_rfl) (by kernel_rfl) (by kernel_rfl) (by kernel_rfl) (fun _ _ _ h => h) (Or.inl ⟨by rfl, ?_⟩) ?_
    rotate_left
    focus (intro wS hSw; (try dsimp only at hSw); go_simp; (try with_reducible rfl); (try (first | (rw [if_pos (by omega)]; (try go_simp); (try with_reducible rfl)) | (rw [if_neg (by omega)]; (try go_simp); (try with_reducible rfl)))))
    try simp only [Act.put, List.setIfInBounds_toArray, List.set_cons_zero, List.set_cons_succ]
    refine wpAnyR_take (i := 1) (v := ?_) [2, 3, 10, 11] (some 29) rfl rfl (by kernel_rfl) (by kernel_rfl) (by kernel_rfl) (by kernel_rfl) (by kernel_rfl) (by kernel_rfl) (by kernel_rfl) (fun _ _ _ h => h) (Or.inl ⟨by rfl, ?_⟩) hS ?_
    rotate_left
    focus (intro wS hSw; (try dsimp only at hSw); go_simp; (try with_reducible rfl); (try (first | (rw [if_pos (by omega)]; (try go_simp); (try with_reducible rfl)) | (rw [if_neg (by omega)]; (try go_simp); (try with_reducible rfl)))))
    try simp only [Act.put, List.setIfInBounds_toArray, List.set_cons_zero, List.set_cons_succ]
    refine wpAnyR_takeQ (i := 2) (v := ?_) (some 30) rfl rfl (by kernel_rfl) (by kernel_rfl) (by kernel_rfl) (by kernel_rfl) (fun _ _ _ h => h) (Or.inl ⟨by rfl, ?_⟩) ?_
    rotate_left
    focus (intro wS hSw; (try dsimp only at hSw); go_simp; (try with_reducible rfl); (try (first | (rw [if_pos (by omega)]; (try go_simp); (try with_reducible rfl)) | (rw [if_neg (by omega)]; (try go_simp); (try with_reducible rfl)))))
    try simp only [Act.put, List.setIfInBounds_toArray, List.set_cons_zero, List.set_cons_succ]
    refine wpAnyR_take (i := 3) (v := ?_) [10, 11] (some 31) rfl rfl (by kernel_rfl) (by kernel_rfl) (by kernel_rfl) (by kernel_rfl) (by kernel_rfl) (by kernel_rfl) (by kernel_rfl) (fun _ _ _ h => h) (Or.inl ⟨by rfl, ?_⟩) hS ?_
    rotate_left
    focus (intro wS hSw; (try dsimp only at hSw); go_simp; (try with_reducible rfl); (try (first | (rw [if_pos (by omega)]; (try go_simp); (try with_reducible rfl)) | (rw [if_neg (by omega)]; (try go_simp); (try with_reducible rfl)))))
    try simp only [Act.put, List.setIfInBounds_toArray, List.set_cons_zero, List.set_cons_succ]
    refine wpAnyR_takeQ (i := 4) (v := ?_) (some 32) rfl rfl (by kernel_rfl) (by kernel_rfl) (by kernel_rfl) (by kernel_rfl) (fun _ _ _ h => h) (Or.inl ⟨by rfl, ?_⟩) ?_
    rotate_left
    focus (intro wS hSw; (try dsimp only at hSw); go_simp; (try with_reducible rfl); (try (first | (rw [if_pos (by omega)]; (try go_simp); (try with_reducible rfl)) | (rw [if_neg (by omega)]; (try go_simp); (try with_reducible rfl)))))
    try simp only [Act.put, List.setIfInBounds_toArray, List.set_cons_zero, List.set_cons_succ]
    refine wpAnyR_takeQ (i := 5) (v := ?_) (some 33) rfl rfl (by kernel_rfl) (by kernel_rfl) (by kernel_rfl) (by kernel_rfl) (fun _ _ _ h => h) (Or.inl ⟨by rfl, ?_⟩) ?_
    rotate_left
    focus (intro wS hSw; (try dsimp only at hSw); go_simp; (try with_reducible rfl); (try (first | (rw [if_pos (by omega)]; (try go_simp); (try with_reducible rfl)) | (rw [if_neg (by omega)]; (try go_simp); (try with_reducible rfl)))))
    try simp only [Act.put, List.setIfInBounds_toArray, List.set_cons_zero, List.set_cons_succ]
    refine wpAnyR_takeQ (i := 6) (v := ?_) (some 34) rfl rfl (by kernel_rfl) (by kernel_rfl) (by kernel_rfl) (by kernel_rfl) (fun _ _ _ h => h) (Or.inl ⟨by rfl, ?_⟩) ?_
    rotate_left
    focus (intro wS hSw; (try dsimp only at hSw); go_simp; (try with_reducible rfl); (try (first | (rw [if_pos (by omega)]; (try go_simp); (try with_reducible rfl)) | (rw [if_neg (by omega)]; (try go_simp); (try with_reducible rfl)))))
    try simp only [Act.put, List.setIfInBounds_toArray, List.set_cons_zero, List.set_cons_succ]
    refine wpAnyR_take (i := 7) (v := ?_) [8, 9, 10, 11] (some 35) rfl rfl (by kernel_rfl) (by kernel_rfl) (by kernel_rfl) (by kernel_rfl) (by kernel_rfl) (by kernel_rfl) (by kernel_rfl) (fun _ _ _ h => h) (Or.inl ⟨by rfl, ?_⟩) hS ?_
    rotate_left
    focus (intro wS hSw; (try dsimp only at hSw); go_simp; (try with_reducible rfl); (try (first | (rw [if_pos (by omega)]; (try go_simp); (try with_reducible rfl)) | (rw [if_neg (by omega)]; (try go_simp); (try with_reducible rfl)))))
    try simp only [Act.put, List.setIfInBounds_toArray, List.set_cons_zero, List.set_cons_succ]
    refine wpAnyR_takeQ (i := 8) (v := ?_) (some 36) rfl rfl (by kernel_rfl) (by kernel_rfl) (by kernel_rfl) (by kernel_rfl) (fun _ _ _ h => h) (Or.inl ⟨by rfl, ?_⟩) ?_
    rotate_left
    focus (intro wS hSw; (try dsimp only at hSw); go_simp; (try with_reducible rfl); (try (first | (rw [if_pos (by omega)]; (try go_simp); (try with_reducible rfl)) | (rw [if_neg (by omega)]; (try go_simp); (try with_reducible rfl)))))
    try simp only [Act.put, List.setIfInBounds_toArray, List.set_cons_zero, List.set_cons_succ]
    refine wpAnyR_takeQ (i := 9) (v := ?_) (some 37) rfl rfl (by kernel_rfl) (by kernel_rfl) (by kernel_rfl) (by kernel_rfl) (fun _ _ _ h => h) (Or.inl ⟨by rfl, ?_⟩) ?_
    rotate_left
    focus (intro wS hSw; (try dsimp only at hSw); go_simp; (try with_reducible rfl); (try (first | (rw [if_pos (by omega)]; (try go_simp); (try with_reducible rfl)) | (rw [if_neg (by omega)]; (try go_simp); (try with_reducible rfl)))))
    try simp only [Act.put, List.setIfInBounds_toArray, List.set_cons_zero, List.set_cons_succ]
    refine wpAnyR_takeQ (i := 10) (v := ?_) (some 38) rfl rfl (by kernel_rfl) (by kernel_rfl) (by kernel_rfl) (by kernel_rfl) (fun _ _ _ h => h) (Or.inl ⟨by rfl, ?_⟩) ?_
    rotate_left
    focus (intro wS hSw; (try dsimp only at hSw); go_simp; (try with_reducible rfl); (try (first | (rw [if_pos (by omega)]; (try go_simp); (try with_reducible rfl)) | (rw [if_neg (by omega)]; (try go_simp); (try with_reducible rfl)))))
    try simp only [Act.put, List.setIfInBounds_toArray, List.set_cons_zero, List.set_cons_succ]
    obtain ⟨k, hk⟩ : ∃ k : Nat, min 8 (ol.length + 1) = k := ⟨_, rfl⟩
    rw [hk] at HSH hmn
    rw [show (if (8 : Int) < (ol.length : Int) + 1 then (8 : Int) else (ol.length : Int) + 1) = (k : Int) from by split <;> omega]
    simp only [Int.toNat_natCast]
    have hgo1 : go < w1.heap.size := by have := HG1.out.size; omega
    have hgs1 : gs < w1.heap.size := by have := HG1.out.size; omega
    have hd1 : DevM w1.drew q D := (HH.out.grew HG1.out).grew ((Grew.refl w1).drew)
    have htk : ([strC a] ++ ol.map strC).take k = ((a :: ol).take 8).map strC := by
      rw [show [strC a] ++ ol.map strC = (a :: ol).map strC from rfl, ← List.map_take]
      congr 1
      rw [← hk, Nat.min_def]
      split
      · rfl
      · rw [List.take_of_length_le (by simp), List.take_of_length_le (by simp; omega)]
    have hsh := HSH.out
    rw [htk] at hsh
    have hd2 := hd1.store_old HVO.out hi (v := .slice (some ⟨g1, 0, none⟩) k c1) (l := (a :: ol).take 8) hsh (fun g hg => by simp [Value.ownBlock] at hg; rw [HVS.out]; simp [Value.ownBlock]; omega) ⟨by simp; omega, fun t ht => HOL.out t (List.mem_of_mem_take ht)⟩
    have hd3 := hd2.store_st (g := gs) (cap := cs) (i := i) HVS.out hi hs
    have HD3 := Lib.hid hd3
    have hfo := hd1.old
    rw [HVO.out] at hfo
    have f0 : w1.frozen? ⟨go, i, none⟩ = false := hfo.frozen i
    have c0 : w1.cell? ⟨go, i, none⟩ = some (.slice Ai ol.length ci) := z2
    have x0'' : w1.cell? ⟨q.x, 0, none⟩ = some (.slice (some ⟨gs, 0, none⟩) D.st.length cs) := x0'
    clear hd1 hd2 hd3 hsh htk hfo
    refine wpAnyR_n1 (i := 11) rfl (by kernel_rfl) ?_
    intro K' hK
    rw [if_pos (by rfl)]
    simp only [List.getElem_toArray, List.getElem_cons_succ, List.getElem_cons_zero]
    go_wp2_with fail
    refine hK.out _ _ (.inl rfl) ?_
    clear hK hS
    refine wpAnyR_done (by kernel_rfl) ?_ _
    have hb2 := HH.out.blk.grew HG1.out
    rw [HVS.out] at hb2
    have hb3 := hb2.far (p := ⟨go, i, none⟩) (fun e => ho3 e.symm) (.slice (some ⟨g1, 0, none⟩) k c1)
    have x9 := hb3.cell 0
    have hgne : ¬ gs = go := fun e => own_own_ne HH.out.st HH.out.old (by decide) gs (by rw [HVS.out]; rfl) (by rw [HVO.out, e]; rfl)
    have y9 := HD3.out
    have hst2 := (HH.out.grew HG1.out).st.far (p := ⟨go, i, none⟩) (fun e => by rw [HVS.out] at e; simp [Value.ownBlock] at e; omega) (.slice (some ⟨g1, 0, none⟩) k c1)
    rw [HVS.out] at hst2
    have f1 : (w1.setCell ⟨go, i, none⟩ (.slice (some ⟨g1, 0, none⟩) k c1)).frozen? ⟨gs, i, none⟩ = false := hst2.frozen i
    have c1' : (w1.setCell ⟨go, i, none⟩ (.slice (some ⟨g1, 0, none⟩) k c1)).cell? ⟨gs, i, none⟩ = some (.string (D.st[i])) := by
      have := hst2.cell (j := i) (i := 0) (r := strC (D.st[i])) (by rw [List.getElem?_map, List.getElem?_eq_getElem hi]; rfl) rfl
      rwa [Nat.mul_one, Nat.add_zero] at this
    clear y9 hb2 hb3 hst2 f0 c0
    go_wp2_with fail
    go_end0
    refine ⟨rfl, q.os.set i (.slice (some ⟨g1, 0, none⟩) k c1), by rw [HC.out]; exact HD3.out, ?_, fun v hv => ?_⟩
    · rw [HVS.out, HVO.out]
      exact ((HG1.out.turned _).setCell (p := ⟨go, i, none⟩) (fun _ => .inr rfl) _).drew.setCell (p := ⟨gs, i, none⟩) (fun _ => .inl rfl) _
    · rcases List.mem_or_eq_of_mem_set hv with hv | rfl
      · exact .inl hv
      · exact .inr ⟨g1, rfl, by assumption⟩
end
end Go.Proofs.Ytklojcgbokmkhaa
