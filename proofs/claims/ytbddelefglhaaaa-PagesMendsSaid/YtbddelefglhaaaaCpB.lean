/- Chapter 3: change. Chapter 3: slices.IndexFunc and slices.DeleteFunc over pending writes. Chapter 4: a register is shifted (checksum.shift, dasdref02.shift). Chapter 4: the table of the sum (checksum.table). Chapter 4: a nibble goes into the sum (checksum.Update$1). Chapter 4: the sum of bytes (checksum.Update, Sum). Chapter 4: the sum of bytes (checksum.Update). Chapters 2 and 4, plain: numbers as bytes; raw sectors. -/
import Derived.StillTailTactics
import Derived.Deep.LoopGhost
import Derived.Test.YtbddelefglhaaaaCpA
namespace Go.Proofs.Ytbddelefglhaaaa
set_option linter.unusedVariables false
set_option linter.unusedSimpArgs false
set_option linter.unusedSectionVars false
open Go.RowKit
open Go.Maps (Keyed)
attribute [local go_sem ↓] Go.wp_at_zero Go.wp_at_succ
theorem OwnL.lit (w : World) (base e sz : Nat) (row : List Value) (hr : row.length = sz) (hb : base ≤ w.heap.size) {n : Nat} (hn : n = w.heap.size) : OwnL (w.alloc (.cells row.toArray e)) base e sz (.slice (some ⟨n, 0, none⟩) 1 1) [row] := by
  subst hn
  refine ⟨fun r h => by rw [List.mem_singleton.1 h]; exact hr, ?_⟩
  have := World.ownsRow_lit (e := e) (size := sz) w row.toArray 1 hb (by decide) (by simp; omega)
  simpa using this
theorem info_str : (Try.prog.info? 9).map (fun i => (i.zero, i.size, i.bytes)) = some (some (.string ⟨#[]⟩), 1, 16) := by kernel_rfl
theorem strC_row (l : List ByteArray) : ∀ r ∈ l.map strC, r.length = 1 := by intro r h; obtain ⟨x, _, rfl⟩ := List.mem_map.1 h; rfl
theorem strC_one (l : List ByteArray) : ∀ r ∈ l.map strC, r.all (·.oneCell') = true := by intro r h; obtain ⟨x, _, rfl⟩ := List.mem_map.1 h; rfl
theorem strC_len (l : List ByteArray) : (l.map strC).length = l.length := List.length_map ..
theorem toL_inj {a b : ByteArray} (h : a.toList = b.toList) : a = b := by
  rw [ByteArray.toList_eq, ByteArray.toList_eq] at h
  cases a; cases b
  congr 1
  exact Array.toList_inj.1 h
theorem str_eq {a b : ByteArray} (h : a = b) : (a.toList == b.toList) = true := by rw [h]; exact beq_self_eq_true _
theorem str_ne {a b : ByteArray} (h : ¬ a = b) : (a.toList == b.toList) = false := beq_eq_false_iff_ne.2 (fun e => h (toL_inj e))
section
variable {w : World} {q : DevP} {D : Dev}
theorem DevM.store_st (h : DevM w q D) {g cap : Nat} (hv : q.vs = .slice (some ⟨g, 0, none⟩) D.st.length cap) {i : Nat} (hi : i < D.st.length) {s : ByteArray} (hs : s.size = 140) :
    DevM (w.setCell ⟨g, i, none⟩ (.string s)) q { D with st := D.st.set i s } := by
  have hvb : q.vs.ownBlock = some g := by rw [hv]; rfl
  have hgx : ¬ q.x = g := fun e => h.st.ne_blk h.blk (by decide) (by rw [hvb, e])
  have hgm : q.m ≠ g := fun e => own_map_ne h.st h.map (by rw [hvb, e])
  refine ⟨h.blk.far (p := ⟨g, i, none⟩) hgx _, ?_, h.old.far (p := ⟨g, i, none⟩) (own_own_ne h.st h.old (by decide) g hvb) _, h.olen, fun j v l hjv hjl => ?_, h.pend.far (p := ⟨g, i, none⟩) (own_own_ne h.st h.pend (by decide) g hvb) _, h.sv.far (p := ⟨g, i, none⟩) (own_own_ne h.st h.sv (by decide) g hvb) _,
    h.map.far (p := ⟨g, i, none⟩) hgm _, h.fen, h.fuse, h.left, h.svok, ?_⟩
  · have h1 := h.st
    rw [hv] at h1
    have h2 := h1.set_ (j := i) (i := 0) (o := i) (r := strC (D.at i)) (by rw [List.getElem?_map, List.getElem?_eq_getElem hi]; unfold Dev.at; rw [List.getD_eq_getElem?_getD, List.getElem?_eq_getElem hi]; rfl) (by omega) (by omega) (.string s)
    rw [← hv] at h2
    show OwnL _ _ _ _ _ ((D.st.set i s).map strC)
    rw [List.map_set]
    exact h2
  · obtain ⟨h1, h2⟩ := h.each j v l hjv hjl
    exact ⟨h1.far (p := ⟨g, i, none⟩) (fun e => h2 g e hvb) _, h2⟩
  · refine ⟨by simp [h.ok.len], by simp [h.ok.pos], by simpa using h.ok.lim, ?_, h.ok.old, fun r hr => by simpa using h.ok.pend r hr, h.ok.fen⟩
    intro t ht
    rcases List.mem_or_eq_of_mem_set ht with ht | rfl
    · exact h.ok.st t ht
    · exact hs
theorem DevM.store_old (h : DevM w q D) {g cap : Nat} (hv : q.vo = .slice (some ⟨g, 0, none⟩) D.st.length cap) {i : Nat} (hi : i < D.st.length) {v : Value} {l : List ByteArray} (hown : OwnL w 0 9 1 v (l.map strC)) (hne : ∀ g, v.ownBlock = some g → q.vs.ownBlock ≠ some g) (hl : l.length ≤ 8 ∧ ∀ s ∈ l, s.size = 140) :
    DevM (w.setCell ⟨g, i, none⟩ v) { q with os := q.os.set i v } { D with old := D.old.set i l } := by
  have hvb : q.vo.ownBlock = some g := by rw [hv]; rfl
  have hgx : ¬ q.x = g := fun e => h.old.ne_blk h.blk (by decide) (by rw [hvb, e])
  have hgm : q.m ≠ g := fun e => own_map_ne h.old h.map (by rw [hvb, e])
  have hio : i < q.os.length := by rw [h.olen, h.ok.len]; exact hi
  refine ⟨h.blk.far (p := ⟨g, i, none⟩) hgx _, h.st.far (p := ⟨g, i, none⟩) (own_own_ne h.old h.st (by decide) g hvb) _, ?_, by simp [h.olen], fun j v' l' hjv hjl => ?_, h.pend.far (p := ⟨g, i, none⟩) (own_own_ne h.old h.pend (by decide) g hvb) _, h.sv.far (p := ⟨g, i, none⟩) (own_own_ne h.old h.sv (by decide) g hvb) _,
    h.map.far (p := ⟨g, i, none⟩) hgm _, h.fen, h.fuse, h.left, h.svok, ?_⟩
  · have h1 := h.old
    rw [hv] at h1
    have h2 := h1.set_ (j := i) (i := 0) (o := i) (r := [q.os[i]]) (by rw [List.getElem?_map, List.getElem?_eq_getElem hio]; rfl) (by omega) (by omega) v
    rw [← hv] at h2
    show OwnL _ _ _ _ _ ((q.os.set i v).map fun v => [v])
    rw [List.map_set]
    exact h2
  · simp only at hjv hjl
    by_cases hij : i = j
    · subst hij
      rw [List.getElem?_set_self hio] at hjv
      rw [List.getElem?_set_self (by rw [← h.olen]; exact hio)] at hjl
      injection hjv with hjv; injection hjl with hjl
      subst hjv; subst hjl
      exact ⟨hown.far (p := ⟨g, i, none⟩) (own_own_ne h.old hown (by decide) g hvb) _, hne⟩
    · rw [List.getElem?_set_ne hij] at hjv hjl
      obtain ⟨h1, h2⟩ := h.each j v' l' hjv hjl
      exact ⟨h1.far (p := ⟨g, i, none⟩) (own_own_ne h.old h1 (by decide) g hvb) _, h2⟩
  · refine ⟨by simp [h.ok.len], h.ok.pos, h.ok.lim, h.ok.st, ?_, h.ok.pend, h.ok.fen⟩
    intro t ht
    rcases List.mem_or_eq_of_mem_set ht with ht | rfl
    · exact h.ok.old t ht
    · exact hl
set_option maxRecDepth 100000 in
set_option maxHeartbeats 4000000 in
theorem change_any (h : DevM w q D) {i : Nat} (hi : i < D.st.length) (s : ByteArray) (hs : s.size = 140) :
    Calls Try.prog 111 #[.pointer (some ⟨q.x, 0, none⟩), .int .i64 (i : Int), .string s] w fun e w' => e = .returned (.tuple #[]) ∧ ∃ os', DevM w' { q with os := os' } (changeD D i s) ∧ Turned (fun k => q.vs.ownBlock = some k ∨ q.vo.ownBlock = some k) w w' ∧ ∀ v ∈ os', v ∈ q.os ∨ ∃ g, v.ownBlock = some g ∧ w.heap.size ≤ g := by
  obtain ⟨gs, cs, hvs, hgs, hs1, hs2, hs3⟩ := h.st_form
  obtain ⟨go, co, hvo, hgo, ho1, ho2, ho3⟩ := h.old_form
  have y0 := h.st_cell hvs hi
  have hk := h.blk
  have HH := Lib.hid h
  rw [hvs, hvo] at hk
  have hxl := hk.lt
  have x0 := hk.cell 0
  by_cases heq : D.at i = s
  · have HC := Lib.hid (show changeD D i s = D from by unfold changeD; rw [if_pos heq])
    have heb := str_eq heq
    generalize D.at i = a at *
    clear h hvs hvo heq hk
    go_enter Try.func111, Try.ntmps111
    go_wp2_with fail
    refine bodyPost_ret (results_none rfl _ _ _) rfl ?_
    exact ⟨rfl, q.os, by rw [HC.out]; exact HH.out, Turned.refl _ _, fun v hv => .inl hv⟩
  · obtain ⟨vi, hvi, howni, hnei⟩ := h.old_at hi
    have z0 := h.old_cell hvo hvi
    have heb := str_ne heq
    have HC := Lib.hid (show changeD D i s = { D with st := D.st.set i s, old := D.old.set i ((D.at i :: D.olds i).take 8) } from by unfold changeD; rw [if_neg heq])
    have HVS := Lib.hid hvs
    have HVO := Lib.hid hvo
    have hol := olds_len h.ok i
    have HOL := Lib.hid (show ∀ t ∈ D.at i :: D.olds i, t.size = 140 from fun t ht => by
      rcases List.mem_cons.1 ht with rfl | ht
      · exact at_size h.ok hi
      · exact olds_size h.ok i t ht)
    generalize D.at i = a at *
    generalize D.olds i = ol at *
    obtain ⟨Ai, ci, rfl, hci, hci2, hli⟩ := howni.listAt
    rw [strC_len] at z0 hci
    have hg0 := (Grew.refl w).alloc (.cells #[.string a] 9)
    have hlit := OwnL.lit w 0 9 1 (strC a) rfl (Nat.zero_le _) rfl
    have hli2 := (hli.keep (Nat.le_refl _) hg0).mono hg0.size
    have hk0 := hk.alloc (.cells #[.string a] 9)
    have HL := Lib.hid hli2
    have HG := Lib.hid hg0
    have HKB := Lib.hid hk
    have z1 := (hg0.cellEq _ _ hgo).trans z0
    have x1 := hk0.cell 1
    clear h hvs hvo heq hk hvi hnei howni hli hli2 hg0 hk0
    go_enter Try.func111, Try.ntmps111
    go_wp2_with (at_builtin; refine wpList_pushAll (by rfl) _ _ 37 rfl 0 9 1 16 _ Try.underlying37 info_str rfl (by decide) _ [strC a] (ol.map strC) (by rfl) hlit _ ol.length _ (by rfl) (strC_len _).symm (strC_row _) HL.out (strC_one _) (by simp; omega) (by simp; omega) (Nat.zero_le _) ?_; intro v1 w1 hown1 hgr1 hat1)
    have hr1 : ∀ k, (Value.slice (some ⟨w.heap.size, 0, none⟩) 1 1).ownBlock = some k → w.heap.size ≤ k := fun k hk => by simp [Value.ownBlock] at hk; omega
    have hg1 : Grew w w1 := Grew.own HG.out hgr1 hr1 (Nat.le_refl _)
    obtain ⟨g1, c1, rfl, _, hg1l, hc1, hc12⟩ : ∃ g c, v1 = .slice (some ⟨g, 0, none⟩) (ol.length + 1) c ∧ w.heap.size ≤ g ∧ g < w1.heap.size ∧ ol.length + 1 ≤ c ∧ c ≤ 9223372036854775807 := by
      rcases hown1.form with ⟨_, h0⟩ | ⟨g, c, hv, _, hlt, h1, h2⟩
      · exact absurd h0 (by simp)
      · have hll : ([strC a] ++ ol.map strC).length = ol.length + 1 := by simp
        rw [hll] at hv h1
        refine ⟨g, c, hv, ?_, hlt, h1, h2⟩
        rcases hat1 with h9 | h9
        · rw [hv] at h9; simp [Value.ownBlock] at h9; omega
        · rw [hv] at h9; simp [Value.ownBlock] at h9; omega
    have HG1 := Lib.hid hg1
    have x1' := (hg1.cellEq _ _ hxl).trans (HKB.out.cell 1)
    have x0' := (hg1.cellEq _ _ hxl).trans x0
    have z2 := (hg1.cellEq _ _ hgo).trans z0
    have hmn : (min (8 : Nat) (ol.length + 1) : Nat) ≤ ol.length + 1 := Nat.min_le_right _ _
    have HSH := Lib.hid (hown1.shrink hmn)
    clear hgr1 hat1 hr1 hg1 hown1 hlit z1 x1
    refine wp_region_R [11] (fun w' : World => w'.cell? ⟨q.x, 1, none⟩ = some (.slice (some ⟨go, 0, none⟩) D.st.length co)) (by kernel_rfl) ?_
    have hS := (show (fun w' : World => w'.cell? ⟨q.x, 1, none⟩ = some (.slice (some ⟨go, 0, none⟩) D.st.length co)) w1.drew from x1')
    refine wpAnyR_takeQ (i := 0) (v := ?_) (some 28) rfl rfl (by kernel_rfl) (by kernel_rfl) (by kernel_rfl) (by kernel_rfl) (fun _ _ _ h => h) (Or.inl ⟨by rfl, ?_⟩) ?_
    rotate_left
    focus (intro wS hSw; (try dsimp only at hSw); go_simp; (try with_reducible rfl); (try (first | (rw [if_pos (by omega)]; (try go_simp); (try with_reducible rfl)) | (rw [if_neg (by omega)]; (try go_simp); (try with_reducible rfl)))))
    try simp only [Act.put, List.setIfInBounds_toArray, List.set_cons_zero, List.set_cons_succ]
    refine wpAnyR_take (i := 1) (v := ?_) [2, 3, 10, 11] (some 29) rfl rfl (by kernel_rfl) (by kernel_rfl) (by kernel_rfl) (by kernel_rfl) (by kernel_rfl) (by kernel_rfl) (by kernel_rfl) (fun _ _ _ h => h) (Or.inl ⟨by rfl, ?_⟩) hS ?_
    rotate_left
    focus (intro wS hSw; (try dsimp only at hSw); go_simp; (try with_reducible rfl); (try (first | (rw [if_pos (by omega)]; (try go_simp); (try with_reducible rfl)) | (rw [if_neg (by omega)]; (try go_simp); (try with_reducible rfl)))))
    try simp only [Act.put, List.setIfInBounds_toArray, List.set_cons_zero, List.set_cons_succ]
    refine wpAnyR_takeQ (i := 2) (v := ?_) (some 30) rfl rfl (by kernel_rfl) (by kernel_rfl) (by kernel_rfl) (by kernel_rfl) (fun _ _ _ h => h) (Or.inl ⟨by rfl, ?_⟩) ?_
    rotate_left
    focus (intro wS hSw; (try dsimp only at hSw); go_simp; (try with_reducible rfl); (try (first | (rw [if_pos (by omega)]; (try go_simp); (try with_reducible rfl)) | (rw [if_neg (by omega)]; (try go_simp); (try with_reducible rfl)))))
    try simp only [Act.put, List.setIfInBounds_toArray, List.set_cons_zero, List.set_cons_succ]
    refine wpAnyR_take (i := 3) (v := ?_) [10, 11] (some 31) rfl rfl (by kernel_rfl) (by kernel_rfl) (by kernel_rfl) (by kernel_rfl) (by kernel_rfl) (by kernel_rfl) (by kernel_rfl) (fun _ _ _ h => h) (Or.inl ⟨by rfl, ?_⟩) hS ?_
    rotate_left
    focus (intro wS hSw; (try dsimp only at hSw); go_simp; (try with_reducible rfl); (try (first | (rw [if_pos (by omega)]; (try go_simp); (try with_reducible rfl)) | (rw [if_neg (by omega)]; (try go_simp); (try with_reducible rfl)))))
    try simp only [Act.put, List.setIfInBounds_toArray, List.set_cons_zero, List.set_cons_succ]
    refine wpAnyR_takeQ (i := 4) (v := ?_) (some 32) rfl rfl (by kernel_rfl) (by kernel_rfl) (by kernel_rfl) (by kernel_rfl) (fun _ _ _ h => h) (Or.inl ⟨by rfl, ?_⟩) ?_
    rotate_left
    focus (intro wS hSw; (try dsimp only at hSw); go_simp; (try with_reducible rfl); (try (first | (rw [if_pos (by omega)]; (try go_simp); (try with_reducible rfl)) | (rw [if_neg (by omega)]; (try go_simp); (try with_reducible rfl)))))
    try simp only [Act.put, List.setIfInBounds_toArray, List.set_cons_zero, List.set_cons_succ]
    refine wpAnyR_takeQ (i := 5) (v := ?_) (some 33) rfl rfl (by kernel_rfl) (by kernel_rfl) (by kernel_rfl) (by kernel_rfl) (fun _ _ _ h => h) (Or.inl ⟨by rfl, ?_⟩) ?_
    rotate_left
    focus (intro wS hSw; (try dsimp only at hSw); go_simp; (try with_reducible rfl); (try (first | (rw [if_pos (by omega)]; (try go_simp); (try with_reducible rfl)) | (rw [if_neg (by omega)]; (try go_simp); (try with_reducible rfl)))))
    try simp only [Act.put, List.setIfInBounds_toArray, List.set_cons_zero, List.set_cons_succ]
    refine wpAnyR_takeQ (i := 6) (v := ?_) (some 34) rfl rfl (by kernel_rfl) (by kernel_rfl) (by kernel_rfl) (by kernel_rfl) (fun _ _ _ h => h) (Or.inl ⟨by rfl, ?_⟩) ?_
    rotate_left
    focus (intro wS hSw; (try dsimp only at hSw); go_simp; (try with_reducible rfl); (try (first | (rw [if_pos (by omega)]; (try go_simp); (try with_reducible rfl)) | (rw [if_neg (by omega)]; (try go_simp); (try with_reducible rfl)))))
    try simp only [Act.put, List.setIfInBounds_toArray, List.set_cons_zero, List.set_cons_succ]
    refine wpAnyR_take (i := 7) (v := ?_) [8, 9, 10, 11] (some 35) rfl rfl (by kernel_rfl) (by kernel_rfl) (by kernel_rfl) (by kernel_rfl) (by kernel_rfl) (by kernel_rfl) (by kernel_rfl) (fun _ _ _ h => h) (Or.inl ⟨by rfl, ?_⟩) hS ?_
    rotate_left
    focus (intro wS hSw; (try dsimp only at hSw); go_simp; (try with_reducible rfl); (try (first | (rw [if_pos (by omega)]; (try go_simp); (try with_reducible rfl)) | (rw [if_neg (by omega)]; (try go_simp); (try with_reducible rfl)))))
    try simp only [Act.put, List.setIfInBounds_toArray, List.set_cons_zero, List.set_cons_succ]
    refine wpAnyR_takeQ (i := 8) (v := ?_) (some 36) rfl rfl (by kernel_rfl) (by kernel_rfl) (by kernel_rfl) (by kernel_rfl) (fun _ _ _ h => h) (Or.inl ⟨by rfl, ?_⟩) ?_
    rotate_left
    focus (intro wS hSw; (try dsimp only at hSw); go_simp; (try with_reducible rfl); (try (first | (rw [if_pos (by omega)]; (try go_simp); (try with_reducible rfl)) | (rw [if_neg (by omega)]; (try go_simp); (try with_reducible rfl)))))
    try simp only [Act.put, List.setIfInBounds_toArray, List.set_cons_zero, List.set_cons_succ]
    refine wpAnyR_takeQ (i := 9) (v := ?_) (some 37) rfl rfl (by kernel_rfl) (by kernel_rfl) (by kernel_rfl) (by kernel_rfl) (fun _ _ _ h => h) (Or.inl ⟨by rfl, ?_⟩) ?_
    rotate_left
    focus (intro wS hSw; (try dsimp only at hSw); go_simp; (try with_reducible rfl); (try (first | (rw [if_pos (by omega)]; (try go_simp); (try with_reducible rfl)) | (rw [if_neg (by omega)]; (try go_simp); (try with_reducible rfl)))))
    try simp only [Act.put, List.setIfInBounds_toArray, List.set_cons_zero, List.set_cons_succ]
    refine wpAnyR_takeQ (i := 10) (v := ?_) (some 38) rfl rfl (by kernel_rfl) (by kernel_rfl) (by kernel_rfl) (by kernel_rfl) (fun _ _ _ h => h) (Or.inl ⟨by rfl, ?_⟩) ?_
    rotate_left
    focus (intro wS hSw; (try dsimp only at hSw); go_simp; (try with_reducible rfl); (try (first | (rw [if_pos (by omega)]; (try go_simp); (try with_reducible rfl)) | (rw [if_neg (by omega)]; (try go_simp); (try with_reducible rfl)))))
    try simp only [Act.put, List.setIfInBounds_toArray, List.set_cons_zero, List.set_cons_succ]
    obtain ⟨k, hk⟩ : ∃ k : Nat, min 8 (ol.length + 1) = k := ⟨_, rfl⟩
    rw [hk] at HSH hmn
    rw [show (if (8 : Int) < (ol.length : Int) + 1 then (8 : Int) else (ol.length : Int) + 1) = (k : Int) from by split <;> omega]
    simp only [Int.toNat_natCast]
    have hgo1 : go < w1.heap.size := by have := HG1.out.size; omega
    have hgs1 : gs < w1.heap.size := by have := HG1.out.size; omega
    have hd1 : DevM w1.drew q D := (HH.out.grew HG1.out).grew ((Grew.refl w1).drew)
    have htk : ([strC a] ++ ol.map strC).take k = ((a :: ol).take 8).map strC := by
      rw [show [strC a] ++ ol.map strC = (a :: ol).map strC from rfl, ← List.map_take]
      congr 1
      rw [← hk, Nat.min_def]
      split
      · rfl
      · rw [List.take_of_length_le (by simp), List.take_of_length_le (by simp; omega)]
    have hsh := HSH.out
    rw [htk] at hsh
    have hd2 := hd1.store_old HVO.out hi (v := .slice (some ⟨g1, 0, none⟩) k c1) (l := (a :: ol).take 8) hsh (fun g hg => by simp [Value.ownBlock] at hg; rw [HVS.out]; simp [Value.ownBlock]; omega) ⟨by simp; omega, fun t ht => HOL.out t (List.mem_of_mem_take ht)⟩
    have hd3 := hd2.store_st (g := gs) (cap := cs) (i := i) HVS.out hi hs
    have HD3 := Lib.hid hd3
    have hfo := hd1.old
    rw [HVO.out] at hfo
    have f0 : w1.frozen? ⟨go, i, none⟩ = false := hfo.frozen i
    have c0 : w1.cell? ⟨go, i, none⟩ = some (.slice Ai ol.length ci) := z2
    have x0'' : w1.cell? ⟨q.x, 0, none⟩ = some (.slice (some ⟨gs, 0, none⟩) D.st.length cs) := x0'
    clear hd1 hd2 hd3 hsh htk hfo
    refine wpAnyR_n1 (i := 11) rfl (by kernel_rfl) ?_
    intro K' hK
    rw [if_pos (by rfl)]
    simp only [List.getElem_toArray, List.getElem_cons_succ, List.getElem_cons_zero]
    go_wp2_with fail
    refine hK.out _ _ (.inl rfl) ?_
    clear hK hS
    refine wpAnyR_done (by kernel_rfl) ?_ _
    have hb2 := HH.out.blk.grew HG1.out
    rw [HVS.out] at hb2
    have hb3 := hb2.far (p := ⟨go, i, none⟩) (fun e => ho3 e.symm) (.slice (some ⟨g1, 0, none⟩) k c1)
    have x9 := hb3.cell 0
    have hgne : ¬ gs = go := fun e => own_own_ne HH.out.st HH.out.old (by decide) gs (by rw [HVS.out]; rfl) (by rw [HVO.out, e]; rfl)
    have y9 := HD3.out
    have hst2 := (HH.out.grew HG1.out).st.far (p := ⟨go, i, none⟩) (fun e => by rw [HVS.out] at e; simp [Value.ownBlock] at e; omega) (.slice (some ⟨g1, 0, none⟩) k c1)
    rw [HVS.out] at hst2
    have f1 : (w1.setCell ⟨go, i, none⟩ (.slice (some ⟨g1, 0, none⟩) k c1)).frozen? ⟨gs, i, none⟩ = false := hst2.frozen i
    have c1' : (w1.setCell ⟨go, i, none⟩ (.slice (some ⟨g1, 0, none⟩) k c1)).cell? ⟨gs, i, none⟩ = some (.string (D.st[i])) := by
      have := hst2.cell (j := i) (i := 0) (r := strC (D.st[i])) (by rw [List.getElem?_map, List.getElem?_eq_getElem hi]; rfl) rfl
      rwa [Nat.mul_one, Nat.add_zero] at this
    clear y9 hb2 hb3 hst2 f0 c0
    go_wp2_with fail
    go_end0
    refine ⟨rfl, q.os.set i (.slice (some ⟨g1, 0, none⟩) k c1), by rw [HC.out]; exact HD3.out, ?_, fun v hv => ?_⟩
    · rw [HVS.out, HVO.out]
      exact ((HG1.out.turned _).setCell (p := ⟨go, i, none⟩) (fun _ => .inr rfl) _).drew.setCell (p := ⟨gs, i, none⟩) (fun _ => .inl rfl) _
    · rcases List.mem_or_eq_of_mem_set hv with hv | rfl
      · exact .inl hv
      · exact .inr ⟨g1, rfl, by assumption⟩
end
end Go.Proofs.Ytbddelefglhaaaa
namespace Go.Proofs.Ytbddelefglhaaaa
set_option linter.unusedVariables false
set_option linter.unusedSimpArgs false
set_option linter.unusedSectionVars false
open Go.RowKit
open Go.Maps (Keyed)
theorem zero_wr (w : World) : (zeroValue 140).run Try.prog w = .ok (.agg #[.int .i64 0, .int .i64 0, .string ⟨#[]⟩]) w := by kernel_rfl
theorem wr_one : ∀ v ∈ (Value.agg #[.int .i64 0, .int .i64 0, .string ⟨#[]⟩]).cells, v.oneCell' = true := by
  intro v hv
  simp [Value.cells] at hv
  rcases hv with rfl | rfl <;> rfl
theorem own_wr {w : World} {base g n cap : Nat} {L : List Wr} (h : OwnL w base 140 3 (.slice (some ⟨g, 0, none⟩) n cap) (L.map wrC)) {k : Nat} (hk : k < L.length) :
    w.cell? ⟨g, k * 3, none⟩ = some (.int .i64 L[k].sys) ∧ w.cell? ⟨g, k * 3 + 1, none⟩ = some (.int .i64 (L[k].sec : Int)) ∧ w.cell? ⟨g, k * 3 + 2, none⟩ = some (.string L[k].data) := by
  have hr : (L.map wrC)[k]? = some (wrC L[k]) := by rw [List.getElem?_map, List.getElem?_eq_getElem hk]; rfl
  exact ⟨h.cell (i := 0) hr rfl, h.cell (i := 1) hr rfl, h.cell (i := 2) hr rfl⟩
theorem take_set_snoc (R : List Wr) (i : Nat) (hi : i < R.length) (p : Wr) : (R.set i p).take (i + 1) = R.take i ++ [p] := by
  rw [List.take_succ_eq_append_getElem (by rw [List.length_set]; exact hi), List.getElem_set_self, List.take_set_of_le (by omega)]
theorem set_wr (R : List Wr) (i : Nat) (hi : i < R.length) (p : Wr) : (((R.map wrC).set i ((wrC R[i]).set 0 (.int .i64 p.sys))).set i (((wrC R[i]).set 0 (.int .i64 p.sys)).set 1 (.int .i64 (p.sec : Int)))).set i ((((wrC R[i]).set 0 (.int .i64 p.sys)).set 1 (.int .i64 (p.sec : Int))).set 2 (.string p.data)) = (R.set i p).map wrC := by
  rw [List.set_set, List.set_set, List.map_set]
  rfl
theorem take_filter_true (p : Wr → Bool) (L : List Wr) (j : Nat) (hj : j < L.length) (hq : p L[j] = true) : (L.take (j + 1)).filter (fun x => !p x) = (L.take j).filter (fun x => !p x) := by
  rw [List.take_succ_eq_append_getElem hj, List.filter_append, List.filter_cons_of_neg (by simp [hq])]
  simp
theorem take_filter_false (p : Wr → Bool) (L : List Wr) (j : Nat) (hj : j < L.length) (hq : p L[j] = false) : (L.take (j + 1)).filter (fun x => !p x) = (L.take j).filter (fun x => !p x) ++ [L[j]] := by
  rw [List.take_succ_eq_append_getElem hj, List.filter_append, List.filter_cons_of_pos (by simp [hq])]
  simp
section
variable (bs : Nat) (p : Wr → Bool) (L : List Wr) (g n cap : Nat) (KP : World → Prop) (hn : n = L.length) (hsmall : n ≤ 1000000)
  (hKP : ∀ W W', KP W → Turned (fun k => k = g) W W' → KP W') (hKG : ∀ W W', KP W → Grew W W' → KP W')
  (hcall : ∀ W (r : Wr), KP W → Calls Try.prog 113 #[.agg #[.int .i64 r.sys, .int .i64 (r.sec : Int), .string r.data], .pointer (some ⟨bs, 0, none⟩)] W fun e w' => e = .returned (.bool (p r)) ∧ Grew W w')
include hn hsmall hKP hKG hcall
set_option maxRecDepth 100000 in
set_option maxHeartbeats 4000000 in
theorem indexFunc_of (w : World) (hown : OwnL w 0 140 3 (.slice (some ⟨g, 0, none⟩) n cap) (L.map wrC)) (hkp : KP w) :
    Calls Try.prog 115 #[.slice (some ⟨g, 0, none⟩) n cap, .func (.func 113) #[] #[.pointer (some ⟨bs, 0, none⟩)]] w fun e w' => Grew w w' ∧
      ((∃ (i : Nat) (hi : i < L.length), e = .returned (.int .i64 (i : Int)) ∧ p L[i] = true ∧ (∀ j (hj : j < L.length), j < i → p L[j] = false)) ∨ (e = .returned (.int .i64 (-1)) ∧ (∀ j (hj : j < L.length), p L[j] = false))) := by
  have HN := Lib.hid hn
  have HCALL := fun W r hk => Lib.hid (hcall W r hk)
  clear hn hcall hKP
  go_enter Try.func115, Try.ntmps115
  go_wp2_with fail
  go_loopg [8] n (fun gk i wr => ∃ k : Nat, k ≤ n ∧ gk = n - k ∧ i = .int .i64 k ∧ (∀ j (hj : j < L.length), j < k → p L[j] = false) ∧ KP wr ∧ Grew w wr)
  case atStart => exact ⟨0, by omega, by omega, rfl, fun j _ h => by omega, hkp, Grew.refl _⟩
  case round =>
    obtain ⟨k, hk, hgk, rfl, hall, hi, ht⟩ := hrel
    have HGK := Lib.hid hgk
    have HA := Lib.hid hall
    have HI := Lib.hid hi
    clear hgk hall hi
    by_cases hlt : k < n
    · have hkl : k < L.length := by rw [← HN.out]; exact hlt
      obtain ⟨c0, c1, c2⟩ := own_wr (hown.grew ht) hkl
      have HC := Lib.hid (HCALL wr L[k] HI.out).out
      have HX2 := Lib.hid (show ∀ j (hj : j < L.length), j < k + 1 → j ≠ k → p L[j] = false from fun j hj h1 h2 => HA.out j hj (by omega))
      go_wp2_with fail
      refine HC.out.mono ?_
      rintro e w1 ⟨rfl, g1⟩
      have HI1 := Lib.hid (hKG _ _ HI.out g1)
      have ht2 := ht.trans g1
      clear g1 ht c0 c1 c2
      cases hq : p L[k]
      · have HQ := Lib.hid hq
        clear hq
        go_wp2_with fail
        go_roundg (n - (k + 1))
        case measure => rw [HGK.out]; omega
        case rel => exact ⟨k + 1, by omega, by omega, by go_num, fun j hj h => by
          by_cases e : j = k
          · subst e; exact HQ.out
          · exact HX2.out j hj h e, HI1.out, ht2⟩
      · have HQ := Lib.hid hq
        clear hq
        go_wp2_with fail
        go_ret
        exact ⟨ht2, .inl ⟨k, hkl, rfl, HQ.out, HA.out⟩⟩
    · obtain rfl : k = n := by omega
      go_wp2_with fail
      go_ret
      exact ⟨ht, .inr ⟨rfl, fun j hj => HA.out j hj (by have := HN.out; omega)⟩⟩
set_option maxRecDepth 100000 in
set_option maxHeartbeats 8000000 in
theorem deleteFunc_of (w : World) (hown : OwnL w 0 140 3 (.slice (some ⟨g, 0, none⟩) n cap) (L.map wrC)) (hkp : KP w) :
    Calls Try.prog 112 #[.slice (some ⟨g, 0, none⟩) n cap, .func (.func 113) #[] #[.pointer (some ⟨bs, 0, none⟩)]] w fun e w' =>
      e = .returned (.slice (some ⟨g, 0, none⟩) (L.filter fun x => !p x).length cap) ∧ OwnL w' 0 140 3 (.slice (some ⟨g, 0, none⟩) (L.filter fun x => !p x).length cap) ((L.filter fun x => !p x).map wrC) ∧ Turned (fun k => k = g) w w' := by
  obtain ⟨hlen, hncap, hcapm⟩ := hown.len
  have HIDX := Lib.hid (indexFunc_of bs p L g n cap KP hn hsmall hKP hKG hcall w hown hkp)
  have HN := Lib.hid hn
  have HCALL := fun W r hk => Lib.hid (hcall W r hk)
  have hgl := (hown.own_ge (g := g) rfl).2
  clear hn hcall hlen
  go_enter Try.func112, Try.ntmps112
  go_wp2_with fail
  refine HIDX.out.mono ?_
  rintro e w1 ⟨hg1, ⟨i, hi, rfl, hqi, hlo⟩ | ⟨rfl, hall⟩⟩
  · have hown1 := hown.grew hg1
    have hin : i < n := by have := HN.out; omega
    have HI1 := Lib.hid (hKG _ _ hkp hg1)
    have hbi : ((i : Int) == -1) = false := beq_eq_false_iff_ne.2 (by omega)
    have HF0 := Lib.hid (show L.take i = (L.take (i + 1)).filter (fun x => !p x) from by
      rw [take_filter_true p L i hi hqi]
      refine (List.filter_eq_self.2 fun x hx => ?_).symm
      obtain ⟨j, hj, rfl⟩ := List.mem_take_iff_getElem.1 hx
      rw [hlo j (by omega) (by omega)]; rfl)
    have hgl1 : g < w1.heap.size := by have := hg1.size; omega
    have ht1 := hg1.turned (fun k => k = g)
    clear hqi hlo hown hg1 hkp
    go_wp2_with fail
    go_loopg [5, 6] (n - (i + 1)) (fun gk ii jj wr => ∃ (i j : Nat) (R : List Wr), i < j ∧ j ≤ n ∧ gk = n - j ∧ ii = .int .i64 i ∧ jj = .int .i64 j ∧ R.length = n ∧ R.take i = (L.take j).filter (fun x => !p x) ∧ R.drop j = L.drop j ∧ OwnL wr 0 140 3 (.slice (some ⟨g, 0, none⟩) n cap) (R.map wrC) ∧ KP wr ∧ Turned (fun k => k = g) w wr)
    case atStart => exact ⟨i, i + 1, L, by omega, by omega, by omega, rfl, by go_num, HN.out.symm, HF0.out, rfl, hown1, HI1.out, ht1⟩
    case round =>
      clear hown1 hin hbi
      obtain ⟨i, j, R, hij, hj, hgk, rfl, rfl, hRl, hRt, hRd, hownr, hir, htr⟩ := hrel
      have HGK := Lib.hid hgk
      have HRL := Lib.hid hRl
      have HRT := Lib.hid hRt
      have HRD := Lib.hid hRd
      have HIR := Lib.hid hir
      clear hgk hRl hRt hRd hir ht1
      have hglr := (hownr.own_ge (g := g) rfl).2
      by_cases hlt : j < n
      · have hjl : j < L.length := by rw [← HN.out]; exact hlt
        have hjR : j < R.length := by rw [HRL.out]; exact hlt
        have hiR : i < R.length := by rw [HRL.out]; omega
        have hLR : R[j] = L[j] := by
          have h1 := congrArg (fun l => l[0]?) HRD.out
          simp only [List.getElem?_drop, Nat.add_zero] at h1
          rw [List.getElem?_eq_getElem hjR, List.getElem?_eq_getElem hjl] at h1
          injection h1
        obtain ⟨c0, c1, c2⟩ := own_wr hownr hjR
        rw [hLR] at c0 c1 c2
        have HDN := Lib.hid (show R.drop (j + 1) = L.drop (j + 1) from by
          have h1 := congrArg (List.drop 1) HRD.out
          rwa [List.drop_drop, List.drop_drop] at h1)
        have HTT := fun h => Lib.hid (take_filter_true p L j hjl h)
        have HTF := fun h => Lib.hid (take_filter_false p L j hjl h)
        have hrow : (R.map wrC)[i]? = some (wrC R[i]) := by rw [List.getElem?_map, List.getElem?_eq_getElem hiR]; rfl
        have HROW := Lib.hid hrow
        have HSETP := Lib.hid (fun p => set_wr R i hiR p)
        clear hLR hrow
        generalize L[j] = r at *
        have gal := (Grew.refl wr).alloc (.cells #[.int .i64 r.sys, .int .i64 (r.sec : Int), .string r.data] 140)
        have HC := Lib.hid (HCALL _ r (hKG _ _ HIR.out gal)).out
        go_wp2_with fail
        refine HC.out.mono ?_
        rintro e w2 ⟨rfl, g2⟩
        have HI2 := Lib.hid (hKG _ _ (hKG _ _ HIR.out gal) g2)
        have hown2 := (hownr.grew gal).grew g2
        have ht2' := (htr.andGrew gal).andGrew g2
        have hvb := (Blk.new wr 140 #[.int .i64 r.sys, .int .i64 (r.sec : Int), .string r.data] rfl).grew g2
        have hz2 := hvb.lt
        have v0 := hvb.cell 0
        have v1 := hvb.cell 1
        have v2 := hvb.cell 2
        clear g2 hownr htr c0 c1 c2 hvb gal
        cases hq : p r
        · have HT1 := HTF hq
          have HQ := Lib.hid hq
          clear hq HTT HTF
          have f0 := hown2.frozen (i * 3)
          have f1 := hown2.frozen (i * 3 + 1)
          have f2 := hown2.frozen (i * 3 + 2)
          obtain ⟨d0, d1, d2⟩ := own_wr hown2 hiR
          have hs1 := hown2.set_ (j := i) (i := 0) (o := i * 3) HROW.out (by omega) rfl (.int .i64 r.sys)
          have hs2 := hs1.set_ (j := i) (i := 1) (o := i * 3 + 1) (r := (wrC R[i]).set 0 (.int .i64 r.sys)) (by rw [List.getElem?_set_self (by rw [List.length_map]; exact hiR)]) (by omega) rfl (.int .i64 (r.sec : Int))
          have hs3 := hs2.set_ (j := i) (i := 2) (o := i * 3 + 2) (r := ((wrC R[i]).set 0 (.int .i64 r.sys)).set 1 (.int .i64 (r.sec : Int))) (by rw [List.getElem?_set_self (by rw [List.length_set, List.length_map]; exact hiR)]) (by omega) rfl (.string r.data)
          rw [HSETP.out r] at hs3
          have HS2 := Lib.hid hs3
          have HTS := Lib.hid (take_set_snoc R i hiR r)
          clear hs1 hs2 hs3
          have hg2 : g < w2.heap.size := by omega
          generalize R[i] = r0 at *
          go_wp2_with fail
          go_roundg (n - (j + 1))
          case measure => rw [HGK.out]; omega
          case rel =>
            refine ⟨i + 1, j + 1, R.set i r, by omega, by omega, by omega, by go_num, by go_num, by rw [List.length_set]; exact HRL.out, by rw [HTS.out, HT1.out, HRT.out], by rw [List.drop_set_of_lt (by omega)]; exact HDN.out, HS2.out, hKP _ _ HI2.out ((((Turned.refl (fun k => k = g) w2).setCell (p := ⟨g, i * 3, none⟩) (fun _ => rfl) _).setCell (p := ⟨g, i * 3 + 1, none⟩) (fun _ => rfl) _).setCell (p := ⟨g, i * 3 + 2, none⟩) (fun _ => rfl) _), (((ht2'.setCell (p := ⟨g, i * 3, none⟩) (fun _ => rfl) _).setCell (p := ⟨g, i * 3 + 1, none⟩) (fun _ => rfl) _).setCell (p := ⟨g, i * 3 + 2, none⟩) (fun _ => rfl) _)⟩
        · have HT1 := HTT hq
          have HQ := Lib.hid hq
          clear hq HTT HTF
          go_wp2_with fail
          go_roundg (n - (j + 1))
          case measure => rw [HGK.out]; omega
          case rel => exact ⟨i, j + 1, R, by omega, by omega, by omega, rfl, by go_num, HRL.out, by rw [HT1.out, HRT.out], HDN.out, hown2, HI2.out, ht2'⟩
      · obtain rfl : j = n := by omega
        have hci : ¬ cap = i := by omega
        have hzc := zero_wr
        have HTE := Lib.hid (show R.take i = L.filter (fun x => !p x) from by rw [HRT.out, HN.out, List.take_length])
        have HTL := Lib.hid (show (L.filter (fun x => !p x)).length = i from by rw [← HTE.out, List.length_take, HRL.out]; omega)
        go_wp2_with (refine wpList_clear_own rfl (.tmp 38) 112 rfl 0 140 3 _ Try.underlying112 zero_wr rfl wr_one (by decide) g j cap i (R.map wrC) hownr hij _ _ rfl rfl ?_; intro w3 hown3 ht3)
        go_ret
        rw [HTL.out]
        refine ⟨rfl, ?_, htr.trans ht3⟩
        rw [← List.map_take, HTE.out] at hown3
        exact hown3
  · have HFE := Lib.hid (show L.filter (fun x => !p x) = L from List.filter_eq_self.2 fun x hx => by
      obtain ⟨j, hj, rfl⟩ := List.mem_iff_getElem.1 hx
      rw [hall j hj]; rfl)
    have hown1 := hown.grew hg1
    have ht1 := hg1.turned (fun k => k = g)
    clear hg1
    go_wp2_with fail
    go_ret
    rw [HFE.out, ← HN.out]
    exact ⟨rfl, hown1, ht1⟩
end
set_option maxRecDepth 100000 in
set_option maxHeartbeats 1000000 in
theorem deleteNil_of (bs : Nat) (w : World) : Calls Try.prog 112 #[.slice none 0 0, .func (.func 113) #[] #[.pointer (some ⟨bs, 0, none⟩)]] w fun e w' => e = .returned (.slice none 0 0) ∧ w = w' := by
  have hI : Calls Try.prog 115 #[.slice none 0 0, .func (.func 113) #[] #[.pointer (some ⟨bs, 0, none⟩)]] w fun e w' => e = .returned (.int .i64 (-1)) ∧ w = w' := by
    go_enter Try.func115, Try.ntmps115
    go_wp2_with fail
    go_loopg [8] 0 (fun gk i wr => gk = 0 ∧ i = .int .i64 0 ∧ w = wr)
    case atStart => exact ⟨rfl, rfl, rfl⟩
    case round =>
      obtain ⟨_, rfl, rfl⟩ := hrel
      go_wp2_with fail
      go_ret
      exact ⟨rfl, rfl⟩
  have HI := Lib.hid hI
  clear hI
  go_enter Try.func112, Try.ntmps112
  go_wp2_with fail
  refine HI.out.mono ?_
  rintro e w1 ⟨rfl, rfl⟩
  go_wp2_with fail
  go_ret
  exact ⟨rfl, rfl⟩
section
variable  (p : Wr → Bool) (L : List Wr) (g n cap : Nat) (KP : World → Prop) (hn : n = L.length) (hsmall : n ≤ 1000000)
  (hKP : ∀ W W', KP W → Turned (fun k => k = g) W W' → KP W') (hKG : ∀ W W', KP W → Grew W W' → KP W')
  (hcall : ∀ W (r : Wr), KP W → Calls Try.prog 109 #[.agg #[.int .i64 r.sys, .int .i64 (r.sec : Int), .string r.data]] W fun e w' => e = .returned (.bool (p r)) ∧ Grew W w')
include hn hsmall hKP hKG hcall
set_option maxRecDepth 100000 in
set_option maxHeartbeats 4000000 in
theorem indexFunc_all (w : World) (hown : OwnL w 0 140 3 (.slice (some ⟨g, 0, none⟩) n cap) (L.map wrC)) (hkp : KP w) :
    Calls Try.prog 115 #[.slice (some ⟨g, 0, none⟩) n cap, .func (.func 109) #[] #[]] w fun e w' => Grew w w' ∧
      ((∃ (i : Nat) (hi : i < L.length), e = .returned (.int .i64 (i : Int)) ∧ p L[i] = true ∧ (∀ j (hj : j < L.length), j < i → p L[j] = false)) ∨ (e = .returned (.int .i64 (-1)) ∧ (∀ j (hj : j < L.length), p L[j] = false))) := by
  have HN := Lib.hid hn
  have HCALL := fun W r hk => Lib.hid (hcall W r hk)
  clear hn hcall hKP
  go_enter Try.func115, Try.ntmps115
  go_wp2_with fail
  go_loopg [8] n (fun gk i wr => ∃ k : Nat, k ≤ n ∧ gk = n - k ∧ i = .int .i64 k ∧ (∀ j (hj : j < L.length), j < k → p L[j] = false) ∧ KP wr ∧ Grew w wr)
  case atStart => exact ⟨0, by omega, by omega, rfl, fun j _ h => by omega, hkp, Grew.refl _⟩
  case round =>
    obtain ⟨k, hk, hgk, rfl, hall, hi, ht⟩ := hrel
    have HGK := Lib.hid hgk
    have HA := Lib.hid hall
    have HI := Lib.hid hi
    clear hgk hall hi
    by_cases hlt : k < n
    · have hkl : k < L.length := by rw [← HN.out]; exact hlt
      obtain ⟨c0, c1, c2⟩ := own_wr (hown.grew ht) hkl
      have HC := Lib.hid (HCALL wr L[k] HI.out).out
      have HX2 := Lib.hid (show ∀ j (hj : j < L.length), j < k + 1 → j ≠ k → p L[j] = false from fun j hj h1 h2 => HA.out j hj (by omega))
      go_wp2_with fail
      refine HC.out.mono ?_
      rintro e w1 ⟨rfl, g1⟩
      have HI1 := Lib.hid (hKG _ _ HI.out g1)
      have ht2 := ht.trans g1
      clear g1 ht c0 c1 c2
      cases hq : p L[k]
      · have HQ := Lib.hid hq
        clear hq
        go_wp2_with fail
        go_roundg (n - (k + 1))
        case measure => rw [HGK.out]; omega
        case rel => exact ⟨k + 1, by omega, by omega, by go_num, fun j hj h => by
          by_cases e : j = k
          · subst e; exact HQ.out
          · exact HX2.out j hj h e, HI1.out, ht2⟩
      · have HQ := Lib.hid hq
        clear hq
        go_wp2_with fail
        go_ret
        exact ⟨ht2, .inl ⟨k, hkl, rfl, HQ.out, HA.out⟩⟩
    · obtain rfl : k = n := by omega
      go_wp2_with fail
      go_ret
      exact ⟨ht, .inr ⟨rfl, fun j hj => HA.out j hj (by have := HN.out; omega)⟩⟩
set_option maxRecDepth 100000 in
set_option maxHeartbeats 8000000 in
theorem deleteFunc_all (w : World) (hown : OwnL w 0 140 3 (.slice (some ⟨g, 0, none⟩) n cap) (L.map wrC)) (hkp : KP w) :
    Calls Try.prog 112 #[.slice (some ⟨g, 0, none⟩) n cap, .func (.func 109) #[] #[]] w fun e w' =>
      e = .returned (.slice (some ⟨g, 0, none⟩) (L.filter fun x => !p x).length cap) ∧ OwnL w' 0 140 3 (.slice (some ⟨g, 0, none⟩) (L.filter fun x => !p x).length cap) ((L.filter fun x => !p x).map wrC) ∧ Turned (fun k => k = g) w w' := by
  obtain ⟨hlen, hncap, hcapm⟩ := hown.len
  have HIDX := Lib.hid (indexFunc_all  p L g n cap KP hn hsmall hKP hKG hcall w hown hkp)
  have HN := Lib.hid hn
  have HCALL := fun W r hk => Lib.hid (hcall W r hk)
  have hgl := (hown.own_ge (g := g) rfl).2
  clear hn hcall hlen
  go_enter Try.func112, Try.ntmps112
  go_wp2_with fail
  refine HIDX.out.mono ?_
  rintro e w1 ⟨hg1, ⟨i, hi, rfl, hqi, hlo⟩ | ⟨rfl, hall⟩⟩
  · have hown1 := hown.grew hg1
    have hin : i < n := by have := HN.out; omega
    have HI1 := Lib.hid (hKG _ _ hkp hg1)
    have hbi : ((i : Int) == -1) = false := beq_eq_false_iff_ne.2 (by omega)
    have HF0 := Lib.hid (show L.take i = (L.take (i + 1)).filter (fun x => !p x) from by
      rw [take_filter_true p L i hi hqi]
      refine (List.filter_eq_self.2 fun x hx => ?_).symm
      obtain ⟨j, hj, rfl⟩ := List.mem_take_iff_getElem.1 hx
      rw [hlo j (by omega) (by omega)]; rfl)
    have hgl1 : g < w1.heap.size := by have := hg1.size; omega
    have ht1 := hg1.turned (fun k => k = g)
    clear hqi hlo hown hg1 hkp
    go_wp2_with fail
    go_loopg [5, 6] (n - (i + 1)) (fun gk ii jj wr => ∃ (i j : Nat) (R : List Wr), i < j ∧ j ≤ n ∧ gk = n - j ∧ ii = .int .i64 i ∧ jj = .int .i64 j ∧ R.length = n ∧ R.take i = (L.take j).filter (fun x => !p x) ∧ R.drop j = L.drop j ∧ OwnL wr 0 140 3 (.slice (some ⟨g, 0, none⟩) n cap) (R.map wrC) ∧ KP wr ∧ Turned (fun k => k = g) w wr)
    case atStart => exact ⟨i, i + 1, L, by omega, by omega, by omega, rfl, by go_num, HN.out.symm, HF0.out, rfl, hown1, HI1.out, ht1⟩
    case round =>
      clear hown1 hin hbi
      obtain ⟨i, j, R, hij, hj, hgk, rfl, rfl, hRl, hRt, hRd, hownr, hir, htr⟩ := hrel
      have HGK := Lib.hid hgk
      have HRL := Lib.hid hRl
      have HRT := Lib.hid hRt
      have HRD := Lib.hid hRd
      have HIR := Lib.hid hir
      clear hgk hRl hRt hRd hir ht1
      have hglr := (hownr.own_ge (g := g) rfl).2
      by_cases hlt : j < n
      · have hjl : j < L.length := by rw [← HN.out]; exact hlt
        have hjR : j < R.length := by rw [HRL.out]; exact hlt
        have hiR : i < R.length := by rw [HRL.out]; omega
        have hLR : R[j] = L[j] := by
          have h1 := congrArg (fun l => l[0]?) HRD.out
          simp only [List.getElem?_drop, Nat.add_zero] at h1
          rw [List.getElem?_eq_getElem hjR, List.getElem?_eq_getElem hjl] at h1
          injection h1
        obtain ⟨c0, c1, c2⟩ := own_wr hownr hjR
        rw [hLR] at c0 c1 c2
        have HDN := Lib.hid (show R.drop (j + 1) = L.drop (j + 1) from by
          have h1 := congrArg (List.drop 1) HRD.out
          rwa [List.drop_drop, List.drop_drop] at h1)
        have HTT := fun h => Lib.hid (take_filter_true p L j hjl h)
        have HTF := fun h => Lib.hid (take_filter_false p L j hjl h)
        have hrow : (R.map wrC)[i]? = some (wrC R[i]) := by rw [List.getElem?_map, List.getElem?_eq_getElem hiR]; rfl
        have HROW := Lib.hid hrow
        have HSETP := Lib.hid (fun p => set_wr R i hiR p)
        clear hLR hrow
        generalize L[j] = r at *
        have gal := (Grew.refl wr).alloc (.cells #[.int .i64 r.sys, .int .i64 (r.sec : Int), .string r.data] 140)
        have HC := Lib.hid (HCALL _ r (hKG _ _ HIR.out gal)).out
        go_wp2_with fail
        refine HC.out.mono ?_
        rintro e w2 ⟨rfl, g2⟩
        have HI2 := Lib.hid (hKG _ _ (hKG _ _ HIR.out gal) g2)
        have hown2 := (hownr.grew gal).grew g2
        have ht2' := (htr.andGrew gal).andGrew g2
        have hvb := (Blk.new wr 140 #[.int .i64 r.sys, .int .i64 (r.sec : Int), .string r.data] rfl).grew g2
        have hz2 := hvb.lt
        have v0 := hvb.cell 0
        have v1 := hvb.cell 1
        have v2 := hvb.cell 2
        clear g2 hownr htr c0 c1 c2 hvb gal
        cases hq : p r
        · have HT1 := HTF hq
          have HQ := Lib.hid hq
          clear hq HTT HTF
          have f0 := hown2.frozen (i * 3)
          have f1 := hown2.frozen (i * 3 + 1)
          have f2 := hown2.frozen (i * 3 + 2)
          obtain ⟨d0, d1, d2⟩ := own_wr hown2 hiR
          have hs1 := hown2.set_ (j := i) (i := 0) (o := i * 3) HROW.out (by omega) rfl (.int .i64 r.sys)
          have hs2 := hs1.set_ (j := i) (i := 1) (o := i * 3 + 1) (r := (wrC R[i]).set 0 (.int .i64 r.sys)) (by rw [List.getElem?_set_self (by rw [List.length_map]; exact hiR)]) (by omega) rfl (.int .i64 (r.sec : Int))
          have hs3 := hs2.set_ (j := i) (i := 2) (o := i * 3 + 2) (r := ((wrC R[i]).set 0 (.int .i64 r.sys)).set 1 (.int .i64 (r.sec : Int))) (by rw [List.getElem?_set_self (by rw [List.length_set, List.length_map]; exact hiR)]) (by omega) rfl (.string r.data)
          rw [HSETP.out r] at hs3
          have HS2 := Lib.hid hs3
          have HTS := Lib.hid (take_set_snoc R i hiR r)
          clear hs1 hs2 hs3
          have hg2 : g < w2.heap.size := by omega
          generalize R[i] = r0 at *
          go_wp2_with fail
          go_roundg (n - (j + 1))
          case measure => rw [HGK.out]; omega
          case rel =>
            refine ⟨i + 1, j + 1, R.set i r, by omega, by omega, by omega, by go_num, by go_num, by rw [List.length_set]; exact HRL.out, by rw [HTS.out, HT1.out, HRT.out], by rw [List.drop_set_of_lt (by omega)]; exact HDN.out, HS2.out, hKP _ _ HI2.out ((((Turned.refl (fun k => k = g) w2).setCell (p := ⟨g, i * 3, none⟩) (fun _ => rfl) _).setCell (p := ⟨g, i * 3 + 1, none⟩) (fun _ => rfl) _).setCell (p := ⟨g, i * 3 + 2, none⟩) (fun _ => rfl) _), (((ht2'.setCell (p := ⟨g, i * 3, none⟩) (fun _ => rfl) _).setCell (p := ⟨g, i * 3 + 1, none⟩) (fun _ => rfl) _).setCell (p := ⟨g, i * 3 + 2, none⟩) (fun _ => rfl) _)⟩
        · have HT1 := HTT hq
          have HQ := Lib.hid hq
          clear hq HTT HTF
          go_wp2_with fail
          go_roundg (n - (j + 1))
          case measure => rw [HGK.out]; omega
          case rel => exact ⟨i, j + 1, R, by omega, by omega, by omega, rfl, by go_num, HRL.out, by rw [HT1.out, HRT.out], HDN.out, hown2, HI2.out, ht2'⟩
      · obtain rfl : j = n := by omega
        have hci : ¬ cap = i := by omega
        have hzc := zero_wr
        have HTE := Lib.hid (show R.take i = L.filter (fun x => !p x) from by rw [HRT.out, HN.out, List.take_length])
        have HTL := Lib.hid (show (L.filter (fun x => !p x)).length = i from by rw [← HTE.out, List.length_take, HRL.out]; omega)
        go_wp2_with (refine wpList_clear_own rfl (.tmp 38) 112 rfl 0 140 3 _ Try.underlying112 zero_wr rfl wr_one (by decide) g j cap i (R.map wrC) hownr hij _ _ rfl rfl ?_; intro w3 hown3 ht3)
        go_ret
        rw [HTL.out]
        refine ⟨rfl, ?_, htr.trans ht3⟩
        rw [← List.map_take, HTE.out] at hown3
        exact hown3
  · have HFE := Lib.hid (show L.filter (fun x => !p x) = L from List.filter_eq_self.2 fun x hx => by
      obtain ⟨j, hj, rfl⟩ := List.mem_iff_getElem.1 hx
      rw [hall j hj]; rfl)
    have hown1 := hown.grew hg1
    have ht1 := hg1.turned (fun k => k = g)
    clear hg1
    go_wp2_with fail
    go_ret
    rw [HFE.out, ← HN.out]
    exact ⟨rfl, hown1, ht1⟩
end
set_option maxRecDepth 100000 in
set_option maxHeartbeats 1000000 in
theorem deleteNil_all  (w : World) : Calls Try.prog 112 #[.slice none 0 0, .func (.func 109) #[] #[]] w fun e w' => e = .returned (.slice none 0 0) ∧ w = w' := by
  have hI : Calls Try.prog 115 #[.slice none 0 0, .func (.func 109) #[] #[]] w fun e w' => e = .returned (.int .i64 (-1)) ∧ w = w' := by
    go_enter Try.func115, Try.ntmps115
    go_wp2_with fail
    go_loopg [8] 0 (fun gk i wr => gk = 0 ∧ i = .int .i64 0 ∧ w = wr)
    case atStart => exact ⟨rfl, rfl, rfl⟩
    case round =>
      obtain ⟨_, rfl, rfl⟩ := hrel
      go_wp2_with fail
      go_ret
      exact ⟨rfl, rfl⟩
  have HI := Lib.hid hI
  clear hI
  go_enter Try.func112, Try.ntmps112
  go_wp2_with fail
  refine HI.out.mono ?_
  rintro e w1 ⟨rfl, rfl⟩
  go_wp2_with fail
  go_ret
  exact ⟨rfl, rfl⟩
end Go.Proofs.Ytbddelefglhaaaa
namespace Go.Proofs.Ytbddelefglhaaaa
set_option linter.unusedVariables false
set_option linter.unusedSimpArgs false
set_option linter.unusedSectionVars false
open Go.RowKit
theorem bit_u32 (x : BitVec 32) : bits .and .u32 (u32 x) 1 = (if x.getLsbD 0 = true then 1 else 0) := by
  rw [show (1 : Int) = u32 1#32 from by decide, and_u32]
  unfold u32
  rw [BitVec.toNat_and]
  have e : (1#32).toNat = 1 := rfl
  rw [e, Nat.and_one_is_mod]
  have : x.getLsbD 0 = decide (x.toNat % 2 = 1) := by rw [BitVec.getLsbD]; simp [Nat.testBit_zero]
  rw [this]
  rcases Nat.mod_two_eq_zero_or_one x.toNat with h | h <;> rw [h] <;> simp
theorem sh1_yes (x : BitVec 32) (h : x.getLsbD 0 = true) : bits .xor .u32 (u32 x / 2) 2197175160 = u32 (sh1 x) := by
  have := shr_u32 x 1
  rw [show (2 : Int) ^ 1 = 2 from rfl] at this
  rw [this, show (2197175160 : Int) = u32 0x82F63B78#32 from by decide, xor_u32]
  unfold sh1
  rw [if_pos h]
theorem sh1_no (x : BitVec 32) (h : x.getLsbD 0 = false) : u32 x / 2 = u32 (sh1 x) := by
  have := shr_u32 x 1
  rw [show (2 : Int) ^ 1 = 2 from rfl] at this
  rw [this, sh1_low x h]
set_option maxRecDepth 100000 in
set_option maxHeartbeats 2000000 in
theorem shift_any (c : BitVec 32) (n : Nat) (w : World) (hn : n ≤ 64) :
    Calls Try.prog 110 #[.int .u32 (u32 c), .int .i64 n] w fun e w' => e = .returned (.int .u32 (u32 (shN n c))) ∧ Grew w w' := by
  have hb := u32_bd c
  obtain ⟨X, hX⟩ : ∃ X, u32 c = X := ⟨_, rfl⟩
  rw [hX] at hb ⊢
  have HX := Lib.hid hX
  clear hX
  go_enter Try.func110, Try.ntmps110
  go_wp2_with fail
  go_loopg [0, 6] n (fun gk x i wr => ∃ k : Nat, k ≤ n ∧ gk = n - k ∧ i = .int .i64 k ∧ x = .int .u32 (u32 (shN k c)) ∧ Grew w wr)
  case atStart => exact ⟨0, by omega, by omega, rfl, by rw [← HX.out]; rfl, by (repeat' first | (with_reducible exact Grew.refl _) | (with_reducible assumption) | (with_reducible refine Grew.alloc ?_ _) | (with_reducible refine Grew.drew ?_) | (with_reducible refine Grew.drewN ?_ _) | (with_reducible refine Grew.setRow ?_ (by first | (simp; done) | (simp; omega) | omega) _) | (with_reducible refine Grew.setCell ?_ (by first | (simp; done) | (simp; omega) | omega) _) | ((with_reducible apply Grew.trans); rotate_left; (with_reducible assumption)) | ((with_reducible apply Grew.turn); rotate_left; (with_reducible assumption); (focus (intro i hi; first | omega | (simp at hi; omega)))) | fail)⟩
  case round =>
    obtain ⟨k, hk, hgk, rfl, rfl, hg⟩ := hrel
    have HGK := Lib.hid hgk
    clear hgk
    obtain ⟨y, hy⟩ : ∃ y, shN k c = y := ⟨_, rfl⟩
    rw [hy]
    have HY := Lib.hid hy
    clear hy
    have hyb := u32_bd y
    have hbit := bit_u32 y
    by_cases hlt : k < n
    · rcases hyy : y.getLsbD 0 with _ | _
      · rw [hyy] at hbit
        have hs := sh1_no y hyy
        have HS := Lib.hid hs
        rw [if_neg (by simp)] at hbit
        clear hyy
        go_wp2_with fail
        go_roundg (n - (k + 1))
        case measure => rw [HGK.out]; omega
        case rel => exact ⟨k + 1, by omega, by omega, by go_num, by rw [shN_end, HY.out], by (repeat' first | (with_reducible exact Grew.refl _) | (with_reducible assumption) | (with_reducible refine Grew.alloc ?_ _) | (with_reducible refine Grew.drew ?_) | (with_reducible refine Grew.drewN ?_ _) | (with_reducible refine Grew.setRow ?_ (by first | (simp; done) | (simp; omega) | omega) _) | (with_reducible refine Grew.setCell ?_ (by first | (simp; done) | (simp; omega) | omega) _) | ((with_reducible apply Grew.trans); rotate_left; (with_reducible assumption)) | ((with_reducible apply Grew.turn); rotate_left; (with_reducible assumption); (focus (intro i hi; first | omega | (simp at hi; omega)))) | fail)⟩
      · rw [hyy] at hbit
        have hs := sh1_yes y hyy
        have HS := Lib.hid hs
        rw [if_pos rfl] at hbit
        clear hyy
        go_wp2_with fail
        go_roundg (n - (k + 1))
        case measure => rw [HGK.out]; omega
        case rel => exact ⟨k + 1, by omega, by omega, by go_num, by rw [shN_end, HY.out], by (repeat' first | (with_reducible exact Grew.refl _) | (with_reducible assumption) | (with_reducible refine Grew.alloc ?_ _) | (with_reducible refine Grew.drew ?_) | (with_reducible refine Grew.drewN ?_ _) | (with_reducible refine Grew.setRow ?_ (by first | (simp; done) | (simp; omega) | omega) _) | (with_reducible refine Grew.setCell ?_ (by first | (simp; done) | (simp; omega) | omega) _) | ((with_reducible apply Grew.trans); rotate_left; (with_reducible assumption)) | ((with_reducible apply Grew.turn); rotate_left; (with_reducible assumption); (focus (intro i hi; first | omega | (simp at hi; omega)))) | fail)⟩
    · have hkn : k = n := by omega
      subst hkn
      go_wp2_with fail
      go_ret
      exact ⟨by rw [HY.out]; rfl, by (repeat' first | (with_reducible exact Grew.refl _) | (with_reducible assumption) | (with_reducible refine Grew.alloc ?_ _) | (with_reducible refine Grew.drew ?_) | (with_reducible refine Grew.drewN ?_ _) | (with_reducible refine Grew.setRow ?_ (by first | (simp; done) | (simp; omega) | omega) _) | (with_reducible refine Grew.setCell ?_ (by first | (simp; done) | (simp; omega) | omega) _) | ((with_reducible apply Grew.trans); rotate_left; (with_reducible assumption)) | ((with_reducible apply Grew.turn); rotate_left; (with_reducible assumption); (focus (intro i hi; first | omega | (simp at hi; omega)))) | fail)⟩
set_option maxRecDepth 100000 in
set_option maxHeartbeats 2000000 in
theorem rshift_any (c : BitVec 32) (w : World) :
    Calls Try.prog 86 #[.int .u32 (u32 c)] w fun e w' => e = .returned (.int .u32 (u32 (sh1 c))) ∧ Grew w w' := by
  have hb := u32_bd c
  have hm : u32 c % 2 = if c.getLsbD 0 = true then 1 else 0 := by
    unfold u32
    have : c.getLsbD 0 = decide (c.toNat % 2 = 1) := by rw [BitVec.getLsbD]; simp [Nat.testBit_zero]
    rw [this]
    rcases Nat.mod_two_eq_zero_or_one c.toNat with h | h <;> rw [h] <;> simp <;> omega
  rcases hyy : c.getLsbD 0 with _ | _
  · rw [hyy, if_neg (by simp)] at hm
    have hs := sh1_no c hyy
    have HS := Lib.hid hs
    clear hyy
    go_enter Try.func86, Try.ntmps86
    go_wp2_with fail
    go_ret
    exact ⟨by first | rfl | simp [hs] | (rw [HS.out]; rfl), by (repeat' first | (with_reducible exact Grew.refl _) | (with_reducible assumption) | (with_reducible refine Grew.alloc ?_ _) | (with_reducible refine Grew.drew ?_) | (with_reducible refine Grew.drewN ?_ _) | (with_reducible refine Grew.setRow ?_ (by first | (simp; done) | (simp; omega) | omega) _) | (with_reducible refine Grew.setCell ?_ (by first | (simp; done) | (simp; omega) | omega) _) | ((with_reducible apply Grew.trans); rotate_left; (with_reducible assumption)) | ((with_reducible apply Grew.turn); rotate_left; (with_reducible assumption); (focus (intro i hi; first | omega | (simp at hi; omega)))) | fail)⟩
  · rw [hyy, if_pos rfl] at hm
    have hs := sh1_yes c hyy
    have HS := Lib.hid hs
    clear hyy
    go_enter Try.func86, Try.ntmps86
    go_wp2_with fail
    go_ret
    exact ⟨by first | rfl | simp [hs] | (rw [HS.out]; rfl), by (repeat' first | (with_reducible exact Grew.refl _) | (with_reducible assumption) | (with_reducible refine Grew.alloc ?_ _) | (with_reducible refine Grew.drew ?_) | (with_reducible refine Grew.drewN ?_ _) | (with_reducible refine Grew.setRow ?_ (by first | (simp; done) | (simp; omega) | omega) _) | (with_reducible refine Grew.setCell ?_ (by first | (simp; done) | (simp; omega) | omega) _) | ((with_reducible apply Grew.trans); rotate_left; (with_reducible assumption)) | ((with_reducible apply Grew.turn); rotate_left; (with_reducible assumption); (focus (intro i hi; first | omega | (simp at hi; omega)))) | fail)⟩
end Go.Proofs.Ytbddelefglhaaaa
namespace Go.Proofs.Ytbddelefglhaaaa
set_option linter.unusedVariables false
set_option linter.unusedSimpArgs false
set_option linter.unusedSectionVars false
open Go.RowKit
/-- Sixteen numbers of the program. -/
def tabArr (S : Nat → BitVec 32) : Array Value := ((List.range 16).map fun i => Value.int .u32 (u32 (S i))).toArray
theorem tabArr_size (S : Nat → BitVec 32) : (tabArr S).size = 16 := by simp [tabArr]
theorem tabArr_get (S : Nat → BitVec 32) (k : Nat) (h : k < 16) : (tabArr S)[k]? = some (.int .u32 (u32 (S k))) := by
  simp [tabArr, List.getElem?_map, List.getElem?_range, h]
theorem tabArr_set (S : Nat → BitVec 32) (k : Nat) (b : BitVec 32) : (tabArr S).setIfInBounds k (.int .u32 (u32 b)) = tabArr (fun i => if i = k then b else S i) := by
  simp only [tabArr, List.setIfInBounds_toArray]
  congr 1
  apply List.ext_getElem?
  intro i
  rw [List.getElem?_set]
  by_cases hik : k = i
  · subst hik
    by_cases h : k < 16
    · simp [h]
    · simp [h, List.getElem?_eq_none]
  · rw [if_neg hik]
    by_cases h : i < 16
    · simp [List.getElem?_map, List.getElem?_range, h, Ne.symm hik]
    · rw [List.getElem?_eq_none (by simp; omega), List.getElem?_eq_none (by simp; omega)]
theorem tabArr_congr {S T : Nat → BitVec 32} (h : ∀ i, i < 16 → S i = T i) : tabArr S = tabArr T := by
  unfold tabArr
  congr 1
  apply List.map_congr_left
  intro i hi
  rw [h i (List.mem_range.mp hi)]
theorem tabArr_one (S : Nat → BitVec 32) : (tabArr S).all (·.oneCell') = true := by
  rw [tabArr, List.all_toArray, List.all_eq_true]
  intro v hv
  obtain ⟨i, _, rfl⟩ := List.mem_map.mp hv
  rfl
/-- The program's table: each of the sixteen numbers, shifted four times. -/
def tabS (k : Nat) : BitVec 32 := shN 4 (BitVec.ofNat 32 k)
theorem u32_small (k : Nat) (h : k < 16) : u32 (BitVec.ofNat 32 k) = (k : Int) := by
  unfold u32
  rw [BitVec.toNat_ofNat, Nat.mod_eq_of_lt (by omega)]
theorem zero_tab (w : World) : (zeroValue 169).run Try.prog w = .ok (.agg (tabArr fun _ => 0#32)) w := by kernel_rfl
theorem info_tab : (Try.prog.info? 169).map (·.size) = some 16 := by kernel_rfl
theorem tab_step (k i : Nat) : (if i = k then tabS k else if i < k then tabS i else 0#32) = if i < k + 1 then tabS i else 0#32 := by
  by_cases h : i = k
  · subst h
    rw [if_pos rfl, if_pos (by omega)]
  · rw [if_neg h]
    by_cases h2 : i < k
    · rw [if_pos h2, if_pos (by omega)]
    · rw [if_neg h2, if_neg (by omega)]
theorem shift_four (k : Nat) (hk : k < 16) (w : World) :
    Calls Try.prog 110 #[.int .u32 k, .int .i64 4] w fun e w' => e = .returned (.int .u32 (u32 (tabS k))) ∧ Grew w w' := by
  have := shift_any (BitVec.ofNat 32 k) 4 w (by omega)
  rw [u32_small k hk] at this
  exact this
set_option maxRecDepth 100000 in
set_option maxHeartbeats 2000000 in
theorem table_any (w : World) :
    Calls Try.prog 100 #[] w fun e w' => e = .returned (.agg (tabArr tabS)) ∧ Grew w w' := by
  have hz := zero_tab
  go_enter Try.func100, Try.ntmps100
  go_wp2_with fail
  clear hz
  go_loopg [3] 16 (fun gk i wr => ∃ k : Nat, k ≤ 16 ∧ gk = 16 - k ∧ i = .int .i64 k ∧ Blk wr w.heap.size 169 (tabArr fun _ => 0#32) ∧ Blk wr (w.heap.size + 1) 169 (tabArr fun i => if i < k then tabS i else 0#32) ∧ Grew w wr)
  case atStart => exact ⟨0, by omega, by omega, rfl, by (apply Blk.conv; (· (repeat' first | (with_reducible assumption) | (with_reducible apply Blk.setRow) | ((with_reducible apply Blk.farRow); rotate_left; (focus (first | (simp; done) | (simp; omega) | omega))) | (with_reducible apply Blk.drew) | (with_reducible apply Blk.drewN) | (with_reducible apply Blk.set_) | (with_reducible exact Blk.new _ _ _ (by first | rfl | (simp; done) | (simp; omega))) | (with_reducible apply Blk.alloc) | ((with_reducible apply Blk.far); rotate_left; (focus (first | (simp; done) | (simp; omega) | omega))) | ((with_reducible apply Blk.grew); rotate_left; (with_reducible assumption)) | ((with_reducible apply Blk.turned); rotate_left; (with_reducible assumption); (focus (first | (simp; done) | (simp; omega) | omega))) | fail)); (· rfl)), by (apply Blk.conv; (· (repeat' first | (with_reducible assumption) | (with_reducible apply Blk.setRow) | ((with_reducible apply Blk.farRow); rotate_left; (focus (first | (simp; done) | (simp; omega) | omega))) | (with_reducible apply Blk.drew) | (with_reducible apply Blk.drewN) | (with_reducible apply Blk.set_) | (with_reducible exact Blk.new _ _ _ (by first | rfl | (simp; done) | (simp; omega))) | (with_reducible apply Blk.alloc) | ((with_reducible apply Blk.far); rotate_left; (focus (first | (simp; done) | (simp; omega) | omega))) | ((with_reducible apply Blk.grew); rotate_left; (with_reducible assumption)) | ((with_reducible apply Blk.turned); rotate_left; (with_reducible assumption); (focus (first | (simp; done) | (simp; omega) | omega))) | fail)); (· exact tabArr_congr fun i _ => by simp)), by (repeat' first | (with_reducible exact Grew.refl _) | (with_reducible assumption) | (with_reducible refine Grew.alloc ?_ _) | (with_reducible refine Grew.drew ?_) | (with_reducible refine Grew.drewN ?_ _) | (with_reducible refine Grew.setRow ?_ (by first | (simp; done) | (simp; omega) | omega) _) | (with_reducible refine Grew.setCell ?_ (by first | (simp; done) | (simp; omega) | omega) _) | ((with_reducible apply Grew.trans); rotate_left; (with_reducible assumption)) | ((with_reducible apply Grew.turn); rotate_left; (with_reducible assumption); (focus (intro i hi; first | omega | (simp at hi; omega)))) | fail)⟩
  case round =>
    obtain ⟨k, hk, hgk, rfl, hb0, hb1, hg⟩ := hrel
    have HGK := Lib.hid hgk
    clear hgk
    have hz0 := hb1.lt
    by_cases hlt : k < 16
    · go_wp2_with fail
      refine (shift_four k hlt _).mono ?_
      rintro e w1 ⟨rfl, g1⟩
      have hb0' := hb0.grew g1
      have hb1' := hb1.grew g1
      have hg1 : Grew w w1 := by (repeat' first | (with_reducible exact Grew.refl _) | (with_reducible assumption) | (with_reducible refine Grew.alloc ?_ _) | (with_reducible refine Grew.drew ?_) | (with_reducible refine Grew.drewN ?_ _) | (with_reducible refine Grew.setRow ?_ (by first | (simp; done) | (simp; omega) | omega) _) | (with_reducible refine Grew.setCell ?_ (by first | (simp; done) | (simp; omega) | omega) _) | ((with_reducible apply Grew.trans); rotate_left; (with_reducible assumption)) | ((with_reducible apply Grew.turn); rotate_left; (with_reducible assumption); (focus (intro i hi; first | omega | (simp at hi; omega)))) | fail)
      have ha := hb1'.cell k
      rw [tabArr_get _ _ (by omega)] at ha
      have hf := hb1'.frozen k
      have hub := u32_bd (tabS k)
      go_wp2_with fail
      go_roundg (16 - (k + 1))
      case measure => rw [HGK.out]; omega
      case rel => exact ⟨k + 1, by omega, by omega, by go_num, by (apply Blk.conv; (· (repeat' first | (with_reducible assumption) | (with_reducible apply Blk.setRow) | ((with_reducible apply Blk.farRow); rotate_left; (focus (first | (simp; done) | (simp; omega) | omega))) | (with_reducible apply Blk.drew) | (with_reducible apply Blk.drewN) | (with_reducible apply Blk.set_) | (with_reducible exact Blk.new _ _ _ (by first | rfl | (simp; done) | (simp; omega))) | (with_reducible apply Blk.alloc) | ((with_reducible apply Blk.far); rotate_left; (focus (first | (simp; done) | (simp; omega) | omega))) | ((with_reducible apply Blk.grew); rotate_left; (with_reducible assumption)) | ((with_reducible apply Blk.turned); rotate_left; (with_reducible assumption); (focus (first | (simp; done) | (simp; omega) | omega))) | fail)); (· rfl)), by (apply Blk.conv; (· (repeat' first | (with_reducible assumption) | (with_reducible apply Blk.setRow) | ((with_reducible apply Blk.farRow); rotate_left; (focus (first | (simp; done) | (simp; omega) | omega))) | (with_reducible apply Blk.drew) | (with_reducible apply Blk.drewN) | (with_reducible apply Blk.set_) | (with_reducible exact Blk.new _ _ _ (by first | rfl | (simp; done) | (simp; omega))) | (with_reducible apply Blk.alloc) | ((with_reducible apply Blk.far); rotate_left; (focus (first | (simp; done) | (simp; omega) | omega))) | ((with_reducible apply Blk.grew); rotate_left; (with_reducible assumption)) | ((with_reducible apply Blk.turned); rotate_left; (with_reducible assumption); (focus (first | (simp; done) | (simp; omega) | omega))) | fail)); (· rw [tabArr_set]; exact tabArr_congr fun i _ => tab_step k i)), by (repeat' first | (with_reducible exact Grew.refl _) | (with_reducible assumption) | (with_reducible refine Grew.alloc ?_ _) | (with_reducible refine Grew.drew ?_) | (with_reducible refine Grew.drewN ?_ _) | (with_reducible refine Grew.setRow ?_ (by first | (simp; done) | (simp; omega) | omega) _) | (with_reducible refine Grew.setCell ?_ (by first | (simp; done) | (simp; omega) | omega) _) | ((with_reducible apply Grew.trans); rotate_left; (with_reducible assumption)) | ((with_reducible apply Grew.turn); rotate_left; (with_reducible assumption); (focus (intro i hi; first | omega | (simp at hi; omega)))) | fail)⟩
    · obtain rfl : k = 16 := by omega
      have e0 : tabArr (fun i => if i < 16 then tabS i else 0#32) = tabArr tabS := tabArr_congr fun i hi => by rw [if_pos hi]
      rw [e0] at hb1
      clear e0
      clear hlt
      go_wp2_with (first | (refine wpList_load_blk rfl 169 _ rfl (w.heap.size + 1) rfl 169 (tabArr tabS) _ hb1 Try.underlying169 rfl (by rw [tabArr_size]; exact info_tab) ?_) | (refine wpList_store_blk rfl 169 _ _ rfl w.heap.size (tabArr tabS) rfl rfl 169 _ hb0 (by rw [tabArr_size, tabArr_size]) (by rw [tabArr_size]; exact info_tab) (tabArr_one _) ?_))
      refine bodyPost_ret (results_cell_row rfl _ _ _ 169 (tabArr tabS) (0, 0) _ rfl (hb0.setRow _) Try.underlying169 rfl (by rw [tabArr_size]; exact info_tab)) rfl ?_
      exact ⟨rfl, by (repeat' first | (with_reducible exact Grew.refl _) | (with_reducible assumption) | (with_reducible refine Grew.alloc ?_ _) | (with_reducible refine Grew.drew ?_) | (with_reducible refine Grew.drewN ?_ _) | (with_reducible refine Grew.setRow ?_ (by first | (simp; done) | (simp; omega) | omega) _) | (with_reducible refine Grew.setCell ?_ (by first | (simp; done) | (simp; omega) | omega) _) | ((with_reducible apply Grew.trans); rotate_left; (with_reducible assumption)) | ((with_reducible apply Grew.turn); rotate_left; (with_reducible assumption); (focus (intro i hi; first | omega | (simp at hi; omega)))) | fail)⟩
end Go.Proofs.Ytbddelefglhaaaa
namespace Go.Proofs.Ytbddelefglhaaaa
set_option linter.unusedVariables false
set_option linter.unusedSimpArgs false
set_option linter.unusedSectionVars false
open Go.RowKit
theorem nib_and (x b : BitVec 32) : ∃ k : Nat, k < 16 ∧ bits .and .u32 (u32 (x ^^^ b)) 15 = (k : Int) ∧ (x ^^^ b) &&& 15#32 = BitVec.ofNat 32 k := by
  refine ⟨((x ^^^ b) &&& 15#32).toNat, ?_, ?_, ?_⟩
  · rw [BitVec.toNat_and]
    exact Nat.lt_of_le_of_lt Nat.and_le_right (by decide)
  · rw [show (15 : Int) = u32 15#32 from by decide, and_u32]; rfl
  · rw [BitVec.ofNat_toNat, BitVec.setWidth_eq]
theorem nib_end (x b : BitVec 32) (k : Nat) (h : (x ^^^ b) &&& 15#32 = BitVec.ofNat 32 k) : bits .xor .u32 (u32 x / 16) (u32 (tabS k)) = u32 (nib x b) := by
  have := shr_u32 x 4
  rw [show (2 : Int) ^ 4 = 16 from rfl] at this
  rw [this, xor_u32]
  unfold nib tabS
  rw [h]
set_option maxRecDepth 100000 in
set_option maxHeartbeats 2000000 in
theorem nibc_any (x b : BitVec 32) (bx bt : Nat) (W : World) (hne : bx ≠ bt) (hx : Blk W bx 22 #[.int .u32 (u32 x)]) (ht : Blk W bt 169 (tabArr tabS)) :
    Calls Try.prog 101 #[.int .u32 (u32 b), .pointer (some ⟨bx, 0, none⟩), .pointer (some ⟨bt, 0, none⟩)] W fun e w' => e = .returned (.tuple #[]) ∧ Blk w' bx 22 #[.int .u32 (u32 (nib x b))] ∧ Turned (fun i => i = bx) W w' := by
  obtain ⟨k, hk, hand, hk2⟩ := nib_and x b
  have hend := nib_end x b k hk2
  have hxor := xor_u32 x b
  have b1 := u32_bd x
  have b2 := u32_bd b
  have b3 := u32_bd (x ^^^ b)
  have b4 := u32_bd (tabS k)
  have b5 := u32_bd (nib x b)
  have HK := Lib.hid hk2
  clear hk2
  go_enter Try.func101, Try.ntmps101
  refine wp_region_still_tail 9 (by kernel_rfl) (by kernel_rfl) ?_
  simp only [List.take_succ_cons, List.take_zero, List.drop_succ_cons, List.drop_zero]
  change wpStill _ _ (World.drew W) (fun a' => wpList _ _ _ _ a' (World.drew W)) _ _
  obtain ⟨w2, hw_w2⟩ : ∃ w', w' = World.drew W := ⟨_, rfl⟩
  rw [← hw_w2]
  have hx2 : Blk w2 bx 22 #[.int .u32 (u32 x)] := by rw [hw_w2]; exact hx.drew
  have ht2 : Blk w2 bt 169 (tabArr tabS) := by rw [hw_w2]; exact ht.drew
  have hT : Turned (fun i => i = bx) W w2 := by rw [hw_w2]; exact (Turned.refl _ W).drew
  have HT := Lib.hid hT
  clear hw_w2 hT hx ht
  have h1 := hx2.lt
  have h2 := ht2.lt
  have x0 := hx2.cell 0
  have t0 := ht2.cell k
  rw [tabArr_get _ _ (by omega)] at t0
  have f0 := hx2.frozen 0
  have hk16 : (k : Int) < 16 := by omega
  repeat still_step
  refine wpStill_nil ?_
  go_wp2_with fail
  refine bodyPost_end (results_none rfl _ _ _) rfl ?_
  exact ⟨rfl, by (apply Blk.conv; (· (repeat' first | (with_reducible assumption) | (with_reducible apply Blk.setRow) | ((with_reducible apply Blk.farRow); rotate_left; (focus (first | (simp; done) | (simp; omega) | omega))) | (with_reducible apply Blk.drew) | (with_reducible apply Blk.drewN) | (with_reducible apply Blk.set_) | (with_reducible exact Blk.new _ _ _ (by first | rfl | (simp; done) | (simp; omega))) | (with_reducible apply Blk.alloc) | ((with_reducible apply Blk.far); rotate_left; (focus (first | (simp; done) | (simp; omega) | omega))) | ((with_reducible apply Blk.grew); rotate_left; (with_reducible assumption)) | ((with_reducible apply Blk.turned); rotate_left; (with_reducible assumption); (focus (first | (simp; done) | (simp; omega) | omega))) | fail)); (· rfl)), HT.out.setCell (fun _ => rfl) _⟩
end Go.Proofs.Ytbddelefglhaaaa
namespace Go.Proofs.Ytbddelefglhaaaa
set_option linter.unusedVariables false
set_option linter.unusedSimpArgs false
set_option linter.unusedSectionVars false
open Go.RowKit
theorem lo_u32 (c : UInt8) : bits .and .u32 (c.toNat : Int) 15 = u32 (byteV c &&& 15#32) := by
  rw [show (15 : Int) = u32 15#32 from by decide, ← and_u32]
  congr 1
  unfold u32 byteV
  rw [BitVec.toNat_ofNat, Nat.mod_eq_of_lt (by have := c.toNat_lt; omega)]
theorem hi_u32 (c : UInt8) : (c.toNat : Int) / 16 = u32 (byteV c >>> 4) := by
  have := shr_u32 (byteV c) 4
  rw [show (2 : Int) ^ 4 = 16 from rfl] at this
  rw [← this]
  congr 1
  unfold u32 byteV
  rw [BitVec.toNat_ofNat, Nat.mod_eq_of_lt (by have := c.toNat_lt; omega)]
end Go.Proofs.Ytbddelefglhaaaa
namespace Go.Proofs.Ytbddelefglhaaaa
set_option linter.unusedVariables false
set_option linter.unusedSimpArgs false
set_option linter.unusedSectionVars false
open Go.RowKit
/-- What the two calls of the closure do with a byte. -/
theorem byte_step (c : UInt8) (y : BitVec 32) : ∃ p q Y1 Y2 : Int, bits .and .u32 (c.toNat : Int) 15 = p ∧ (c.toNat : Int) / 16 = q ∧ (0 ≤ p ∧ p ≤ 4294967295) ∧ (0 ≤ q ∧ q ≤ 4294967295) ∧ Y2 = u32 (nib (nib y (byteV c &&& 15#32)) (byteV c >>> 4)) ∧
    (∀ (bx bt : Nat) (W : World), bx ≠ bt → Blk W bx 22 #[.int .u32 (u32 y)] → Blk W bt 169 (tabArr tabS) → Calls Try.prog 101 #[.int .u32 p, .pointer (some ⟨bx, 0, none⟩), .pointer (some ⟨bt, 0, none⟩)] W fun e w' => e = .returned (.tuple #[]) ∧ Blk w' bx 22 #[.int .u32 Y1] ∧ Turned (fun i => i = bx) W w') ∧
    (∀ (bx bt : Nat) (W : World), bx ≠ bt → Blk W bx 22 #[.int .u32 Y1] → Blk W bt 169 (tabArr tabS) → Calls Try.prog 101 #[.int .u32 q, .pointer (some ⟨bx, 0, none⟩), .pointer (some ⟨bt, 0, none⟩)] W fun e w' => e = .returned (.tuple #[]) ∧ Blk w' bx 22 #[.int .u32 Y2] ∧ Turned (fun i => i = bx) W w') :=
  ⟨u32 (byteV c &&& 15#32), u32 (byteV c >>> 4), u32 (nib y (byteV c &&& 15#32)), _, lo_u32 c, hi_u32 c, u32_bd _, u32_bd _, rfl, fun bx bt W hne h1 h2 => nibc_any y _ bx bt W hne h1 h2, fun bx bt W hne h1 h2 => nibc_any _ _ bx bt W hne h1 h2⟩
theorem not_max (x : BitVec 32) : bits .xor .u32 IntKind.u32.max (u32 x) = u32 (~~~x) := not_u32 x
set_option maxRecDepth 100000 in
set_option maxHeartbeats 1000000 in
theorem update_any (x : BitVec 32) (s : ByteArray) (hs : s.size ≤ 9223372036854775807) (w : World) :
    Calls Try.prog 83 #[.int .u32 (u32 x), .string s] w fun e w' => e = .returned (.int .u32 (u32 (~~~(crcU s.data.toList (~~~x))))) ∧ Grew w w' := by
  have hz := zero_tab
  have hnot : bits .xor .u32 IntKind.u32.max (u32 x) = u32 (~~~x) := not_u32 x
  have b0 := u32_bd x
  have b1 := u32_bd (~~~x)
  go_enter Try.func83, Try.ntmps83
  go_wp2_with fail
  refine (table_any _).mono ?_
  rintro e w1 ⟨rfl, g1⟩
  have hG := g1
  clear hz
  go_wp2_with (first | (refine wpList_store_blk rfl 169 _ _ rfl w1.heap.size (tabArr tabS) rfl rfl 169 (tabArr fun _ => 0#32) (Blk.new w1 _ _ rfl) (by rw [tabArr_size, tabArr_size]) (by rw [tabArr_size]; exact info_tab) (tabArr_one _) ?_))
  go_loopg [8] s.size (fun gk i wr => ∃ k : Nat, k ≤ s.size ∧ gk = s.size - k ∧ i = .int .i64 k ∧ Blk wr w1.heap.size 169 (tabArr tabS) ∧ Blk wr (w1.heap.size + 1) 22 #[.int .u32 (u32 (crcU (s.data.toList.take k) (~~~x)))] ∧ Grew w wr)
  case atStart => exact ⟨0, by omega, by omega, rfl, by (apply Blk.conv; (· (repeat' first | (with_reducible assumption) | (with_reducible apply Blk.setRow) | ((with_reducible apply Blk.farRow); rotate_left; (focus (first | (simp; done) | (simp; omega) | omega))) | (with_reducible apply Blk.drew) | (with_reducible apply Blk.drewN) | (with_reducible apply Blk.set_) | (with_reducible exact Blk.new _ _ _ (by first | rfl | (simp; done) | (simp; omega))) | (with_reducible apply Blk.alloc) | ((with_reducible apply Blk.far); rotate_left; (focus (first | (simp; done) | (simp; omega) | omega))) | ((with_reducible apply Blk.grew); rotate_left; (with_reducible assumption)) | ((with_reducible apply Blk.turned); rotate_left; (with_reducible assumption); (focus (first | (simp; done) | (simp; omega) | omega))) | fail)); (· rfl)), by (apply Blk.conv; (· (repeat' first | (with_reducible assumption) | (with_reducible apply Blk.setRow) | ((with_reducible apply Blk.farRow); rotate_left; (focus (first | (simp; done) | (simp; omega) | omega))) | (with_reducible apply Blk.drew) | (with_reducible apply Blk.drewN) | (with_reducible apply Blk.set_) | (with_reducible exact Blk.new _ _ _ (by first | rfl | (simp; done) | (simp; omega))) | (with_reducible apply Blk.alloc) | ((with_reducible apply Blk.far); rotate_left; (focus (first | (simp; done) | (simp; omega) | omega))) | ((with_reducible apply Blk.grew); rotate_left; (with_reducible assumption)) | ((with_reducible apply Blk.turned); rotate_left; (with_reducible assumption); (focus (first | (simp; done) | (simp; omega) | omega))) | fail)); (· rfl)), by (first | (refine Grew.alloc ?_ _; exact (hG.alloc _).setRow (by have := hG.size; omega) _) | (refine Grew.trans (hG.alloc _) ?_; skip))⟩
  case round =>
    obtain ⟨k, hk, hgk, rfl, hbt, hbx, hg⟩ := hrel
    have HGK := Lib.hid hgk
    clear hgk hnot b0 b1
    have hGs := hG.size
    by_cases hlt : k < s.size
    · have hsn := crcU_snoc s k hlt (~~~x)
      obtain ⟨y, hy⟩ : ∃ y, crcU (s.data.toList.take k) (~~~x) = y := ⟨_, rfl⟩
      rw [hy] at hbx hsn
      rw [← nib_nib] at hsn
      have HSN := Lib.hid hsn
      obtain ⟨p, q, Y1, Y2, hp, hq, hpb, hqb, hY2, hc1, hc2⟩ := byte_step s[k] y
      have HY2 := Lib.hid hY2
      have hu := s[k].toNat_lt
      have HC1 := Lib.hid (hc1 (w1.heap.size + 1) w1.heap.size _ (by omega) hbx hbt)
      have HC2 := Lib.hid hc2
      have HBT := Lib.hid hbt
      have HG := Lib.hid hg
      clear hsn hy hY2 hc1 hc2 hbt hbx hg
      go_wp2_with fail
      refine HC1.out.mono ?_
      rintro e w2 ⟨rfl, hx2, t2⟩
      have HX2 := Lib.hid hx2
      have HT2 := Lib.hid (HBT.out.turned t2 (show ¬ (w1.heap.size = w1.heap.size + 1) from by omega))
      have HTT2 := Lib.hid t2
      clear hx2 t2
      go_wp2_with fail
      refine (HC2.out (w1.heap.size + 1) w1.heap.size _ (by omega) HX2.out HT2.out).mono ?_
      rintro e w3 ⟨rfl, hx3, t3⟩
      have ht3 := HT2.out.turned t3 (show ¬ (w1.heap.size = w1.heap.size + 1) from by omega)
      have hg3 : Grew w w3 := (((HG.out.turned (fun i => i = w1.heap.size + 1)).trans HTT2.out).trans t3).grew (fun j hj (e : j = _) => by omega)
      go_wp2_with fail
      go_roundg (s.size - (k + 1))
      case measure => rw [HGK.out]; omega
      case rel => exact ⟨k + 1, by omega, by omega, by go_num, ht3, by rw [HSN.out, ← HY2.out]; exact hx3, hg3⟩
    · obtain rfl : k = s.size := by omega
      have e0 : s.data.toList.take s.size = s.data.toList := by rw [List.take_of_length_le (by simp)]
      rw [e0] at hbx
      have hnot2 := not_max (crcU s.data.toList (~~~x))
      have v0 := hbx.cell 0
      have v1 := u32_bd (crcU s.data.toList (~~~x))
      have v2 := u32_bd (~~~(crcU s.data.toList (~~~x)))
      have hzx := hbx.lt
      clear e0
      go_wp2_with fail
      go_ret
      exact ⟨rfl, by (repeat' first | (with_reducible exact Grew.refl _) | (with_reducible assumption) | (with_reducible refine Grew.alloc ?_ _) | (with_reducible refine Grew.drew ?_) | (with_reducible refine Grew.drewN ?_ _) | (with_reducible refine Grew.setRow ?_ (by first | (simp; done) | (simp; omega) | omega) _) | (with_reducible refine Grew.setCell ?_ (by first | (simp; done) | (simp; omega) | omega) _) | ((with_reducible apply Grew.trans); rotate_left; (with_reducible assumption)) | ((with_reducible apply Grew.turn); rotate_left; (with_reducible assumption); (focus (intro i hi; first | omega | (simp at hi; omega)))) | fail)⟩
end Go.Proofs.Ytbddelefglhaaaa
namespace Go.Proofs.Ytbddelefglhaaaa
set_option linter.unusedVariables false
set_option linter.unusedSimpArgs false
set_option linter.unusedSectionVars false
open Go.RowKit
def b8 (n : Nat) : UInt8 := UInt8.ofNat n
theorem b8_toNat (n : Nat) : (b8 n).toNat = n % 256 := by unfold b8; rw [UInt8.toNat_ofNat']
/-- The bytes of a number. -/
def bytesS (x : BitVec 32) : ByteArray := ⟨#[b8 x.toNat, b8 (x.toNat / 256), b8 (x.toNat / 65536), b8 (x.toNat / 16777216)]⟩
theorem bytesS_size (x : BitVec 32) : (bytesS x).size = 4 := rfl
def at8 (s : ByteArray) (i : Nat) : Nat := (s.data.getD i 0).toNat
theorem at8_lt (s : ByteArray) (i : Nat) : at8 s i < 256 := UInt8.toNat_lt _
def numN (s : ByteArray) : Nat := if s.size = 4 then at8 s 0 + 256 * at8 s 1 + 65536 * at8 s 2 + 16777216 * at8 s 3 else 0
theorem numN_lt (s : ByteArray) : numN s < 4294967296 := by
  unfold numN
  have := at8_lt s 0
  have := at8_lt s 1
  have := at8_lt s 2
  have := at8_lt s 3
  split <;> omega
/-- The number with some bytes. -/
def numS (s : ByteArray) : BitVec 32 := BitVec.ofNat 32 (numN s)
theorem numS_toNat (s : ByteArray) : (numS s).toNat = numN s := by
  unfold numS
  rw [BitVec.toNat_ofNat]
  exact Nat.mod_eq_of_lt (numN_lt s)
theorem num_bytes (x : BitVec 32) : numS (bytesS x) = x := by
  apply BitVec.eq_of_toNat_eq
  rw [numS_toNat]
  have hx := x.isLt
  show (if (bytesS x).size = 4 then (b8 x.toNat).toNat + 256 * (b8 (x.toNat / 256)).toNat + 65536 * (b8 (x.toNat / 65536)).toNat + 16777216 * (b8 (x.toNat / 16777216)).toNat else 0) = _
  rw [if_pos (bytesS_size x), b8_toNat, b8_toNat, b8_toNat, b8_toNat]
  omega
theorem bytes_num (s : ByteArray) (h : s.size = 4) : bytesS (numS s) = s := by
  have e : ∃ a b c d : UInt8, s = ⟨#[a, b, c, d]⟩ := by
    obtain ⟨⟨l⟩⟩ := s
    match l, h with
    | [a, b, c, d], _ => exact ⟨a, b, c, d, rfl⟩
  obtain ⟨a, b, c, d, rfl⟩ := e
  have ha := a.toNat_lt
  have hb := b.toNat_lt
  have hc := c.toNat_lt
  have hd := d.toNat_lt
  have hn : (numS ⟨#[a, b, c, d]⟩).toNat = a.toNat + 256 * b.toNat + 65536 * c.toNat + 16777216 * d.toNat := by
    rw [numS_toNat]
    show (if (4 : Nat) = 4 then a.toNat + 256 * b.toNat + 65536 * c.toNat + 16777216 * d.toNat else 0) = _
    rw [if_pos rfl]
  unfold bytesS
  rw [hn]
  congr 1
  have f : ∀ (n : Nat) (u : UInt8), n % 256 = u.toNat → b8 n = u := fun n u h => UInt8.toNat_inj.1 (by rw [b8_toNat, h])
  rw [f _ a (by omega), f _ b (by omega), f _ c (by omega), f _ d (by omega)]
def zeroS (n : Nat) : ByteArray := ⟨(List.replicate n (0 : UInt8)).toArray⟩
theorem zeroS_size (n : Nat) : (zeroS n).size = n := by simp [zeroS, ByteArray.size]
/-- Data with zeros behind it, cut at 128 bytes. -/
def dataS (d : ByteArray) : ByteArray := d.extract 0 128 ++ zeroS (128 - d.size)
theorem dataS_size (d : ByteArray) : (dataS d).size = 128 := by unfold dataS; rw [ByteArray.size_append, zeroS_size, ByteArray.size_extract]; omega
theorem dataS_full (d : ByteArray) (h : d.size = 128) : dataS d = d := by
  unfold dataS
  rw [h, ← h, ByteArray.extract_zero_size, show zeroS (d.size - d.size) = ⟨#[]⟩ from by rw [Nat.sub_self]; rfl]
  exact ByteArray.append_empty
def idx32 (i : Int) : BitVec 32 := BitVec.ofInt 32 i
def sealS (s : ByteArray) : ByteArray := s ++ bytesS (sumS s)
/-- A raw sector. -/
def bodyR (d : ByteArray) (v : BitVec 32) (i : Int) : ByteArray := dataS d ++ bytesS v ++ bytesS (idx32 i)
def packS (d : ByteArray) (v : BitVec 32) (i : Int) : ByteArray := sealS (bodyR d v i)
theorem bodyR_size (d : ByteArray) (v : BitVec 32) (i : Int) : (bodyR d v i).size = 136 := by unfold bodyR; rw [ByteArray.size_append, ByteArray.size_append, dataS_size, bytesS_size, bytesS_size]
theorem packS_size (d : ByteArray) (v : BitVec 32) (i : Int) : (packS d v i).size = 140 := by unfold packS sealS; rw [ByteArray.size_append, bodyR_size, bytesS_size]
def okR (s : ByteArray) (i : Int) : Prop := s.size = 140 ∧ numS (s.extract 136 140) = sumS (s.extract 0 136) ∧ numS (s.extract 132 136) = idx32 i
instance (s : ByteArray) (i : Int) : Decidable (okR s i) := by unfold okR; exact inferInstance
/-- What a raw sector says. -/
def unpackS (s : ByteArray) (i : Int) : ByteArray × BitVec 32 × Int := if okR s i then (s.extract 0 128, numS (s.extract 128 132), 0) else (⟨#[]⟩, 0#32, 11)
theorem ext_left (a b : ByteArray) (n : Nat) (h : a.size = n) : (a ++ b).extract 0 n = a := by subst h; exact ByteArray.extract_append_eq_left rfl
theorem ext_right (a b : ByteArray) (n m : Nat) (h : a.size = n) (h2 : n + b.size = m) : (a ++ b).extract n m = b := by subst h; exact ByteArray.extract_append_eq_right rfl h2.symm
theorem ext_in (a b : ByteArray) (i j : Nat) (h : j ≤ a.size) : (a ++ b).extract i j = a.extract i j := by
  rw [ByteArray.extract_append, Nat.sub_eq_zero_of_le h]
  rw [show b.extract (i - a.size) 0 = ByteArray.empty from by rw [← ByteArray.size_eq_zero_iff, ByteArray.size_extract]; omega]
  exact ByteArray.append_empty
theorem pack_parts (d : ByteArray) (v : BitVec 32) (i : Int) : (packS d v i).extract 0 136 = bodyR d v i ∧ (packS d v i).extract 136 140 = bytesS (sumS (bodyR d v i)) ∧ (packS d v i).extract 0 128 = dataS d ∧ (packS d v i).extract 128 132 = bytesS v ∧ (packS d v i).extract 132 136 = bytesS (idx32 i) := by
  have hb := bodyR_size d v i
  have h0 : (dataS d ++ bytesS v).size = 132 := by rw [ByteArray.size_append, dataS_size, bytesS_size]
  unfold packS sealS
  refine ⟨ext_left _ _ _ hb, ext_right _ _ _ _ hb rfl, ?_, ?_, ?_⟩
  · rw [ext_in _ _ _ _ (by omega)]
    unfold bodyR
    rw [ext_in _ _ _ _ (by omega)]
    exact ext_left _ _ _ (dataS_size d)
  · rw [ext_in _ _ _ _ (by omega)]
    unfold bodyR
    rw [ext_in _ _ _ _ (by omega)]
    exact ext_right _ _ _ _ (dataS_size d) rfl
  · rw [ext_in _ _ _ _ (by omega)]
    unfold bodyR
    exact ext_right _ _ _ _ h0 rfl
theorem idx32_inj {i j : Int} (hi : 0 ≤ i ∧ i < 4294967296) (hj : 0 ≤ j ∧ j < 4294967296) (h : idx32 i = idx32 j) : i = j := by
  unfold idx32 at h
  have h2 := congrArg BitVec.toNat h
  rw [BitVec.toNat_ofInt, BitVec.toNat_ofInt] at h2
  omega
end Go.Proofs.Ytbddelefglhaaaa
