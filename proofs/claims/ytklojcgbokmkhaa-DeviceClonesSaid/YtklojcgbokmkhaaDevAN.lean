/- Chapter 3: Clone. -/
import Derived.Test.YtklojcgbokmkhaaDevL
import Derived.Test.YtklojcgbokmkhaaOwn2
import Derived.Laws.CopyRow
namespace Go.Proofs.Ytklojcgbokmkhaa
set_option linter.unusedVariables false
set_option linter.unusedSimpArgs false
set_option linter.unusedSectionVars false
open Go.RowKit
open Go.Maps (Keyed)
attribute [local go_sem ↓] Go.wp_at_zero Go.wp_at_succ
theorem OwnL.lower {w : World} {b b' e sz : Nat} {v : Value} {rows : List (List Value)} (h : OwnL w b e sz v rows) (hb : b' ≤ b) : OwnL w b' e sz v rows := by
  refine ⟨h.1, h.2.1, ?_⟩
  rcases h.2.2 with h0 | ⟨g, cap, cur, h1, h2, h3⟩
  · exact .inl h0
  · exact .inr ⟨g, cap, cur, h1, Nat.le_trans hb h2, h3⟩
theorem ones_flatten (l : List Value) : (l.map fun v => [v]).flatten = l := by
  induction l with
  | nil => rfl
  | cons x l ih => simp [ih]
/-- copy over a whole slice of the call's own. -/
theorem wp_copy_whole {o : Oper} {a : Act} {w : World} {K : Act → World → Prop} {Q : Exit → Act → World → Prop} (d s : Operand) (dT sT elem : TypeId) (hop : o.op = .call { callee := .builtin .copy, args := #[d, s], argTypes := #[dT, sT] })
    (hu : Try.prog.underlying dT = some (.slice elem)) (hsz : (Try.prog.info? elem).map (·.size) = some 1) {base g cap cs n : Nat} {rows : List (List Value)} {A : Option Addr} {l : List Value} (hn : l.length = n) (hl : 0 < n)
    (hown : OwnL w base elem 1 (.slice (some ⟨g, 0, none⟩) n cap) rows) (hsrc : ListAt w w.heap.size 1 A (l.map fun v => [v])) (h1 : ∀ v ∈ l, v.oneCell' = true)
    (hd : a.eval d = .slice (some ⟨g, 0, none⟩) n cap) (hs : a.eval s = .slice A n cs)
    (h : ∀ w', OwnL w' base elem 1 (.slice (some ⟨g, 0, none⟩) n cap) (l.map fun v => [v]) → Turned (fun k => k = g) w w' → K (a.put o.dst (goInt n)) w') : o.wp Try.prog a w K Q := by
  subst hn
  obtain ⟨hl1, hc, hm⟩ := hown.len
  obtain ⟨cur, hb, hh, hsz2, ht⟩ := hown.block
  obtain ⟨b2, off, rfl, hb2, hcell⟩ := hsrc (by rw [List.length_map]; exact hl)
  have hrun := run_copy_row (P := Try.prog) w dT sT o.type elem g 0 l.length cap ⟨b2, off, none⟩ l.length cs cur elem l hu hsz hh (Nat.min_self _).symm (fun j v hj => by
    have := hcell j [v] (by rw [List.getElem?_map, hj]; rfl) 0 v rfl
    rw [add_plain]
    rwa [Nat.mul_one, Nat.add_zero] at this) (by rw [hsz2]; omega) h1
  unfold Oper.wp
  simp [execOp, hop, resolve, invoke, builtin, hd, hs, hrun, Result.andThen]
  refine h _ ⟨fun r hr => ?_, by rw [ones_flatten]; simp, .inr ⟨g, cap, (l ++ cur.toList.drop l.length).toArray, by rw [List.length_map], hb, setRow_heap w g cur _ elem (0, 0) hh, by rw [List.length_map]; exact hc, by unfold maxLen; simpa using hm, ?_, ?_⟩⟩ ((Turned.refl (fun k => k = g) w).setRow (fun _ => rfl) _)
  · obtain ⟨x, _, rfl⟩ := List.mem_map.1 hr; rfl
  · simp [hsz2]; omega
  · rw [ones_flatten]; simp
theorem wp_call1 {o : Oper} {a : Act} {w : World} {K : Act → World → Prop} {Q : Exit → Act → World → Prop} (f : FuncId) (x : Operand) (ts : Array TypeId) (hop : o.op = .call { callee := .value (.func f), args := #[x], argTypes := ts }) {vx : Value} (hx : a.eval x = vx)
    (hrun : (execOp a.eval o).run Try.prog w = .ok (.enter f #[vx]) w) {R : Ending → World → Prop} (hc : Calls Try.prog f #[vx] w R) (hK : ∀ e w', R e w' → ∃ v, e = .returned v ∧ K (a.put o.dst v) w') : o.wp Try.prog a w K Q := by
  unfold Oper.wp
  rw [hrun, Oper.upon_enter]
  refine hc.mono fun e w' hh => ?_
  obtain ⟨v, rfl, h⟩ := hK e w' hh
  exact h
/-- What Clone's parts are. -/
def CloR (w : World) (n : Nat) (pend : List Wr) (i : Nat) (v : Value) (w' : World) : Prop :=
  (i = 5 → OwnL w' w.heap.size 9 1 v (List.replicate n [.string ⟨#[]⟩])) ∧ (i = 11 → OwnL w' w.heap.size 27 1 v (List.replicate n [.slice none 0 0])) ∧ (i = 16 → OwnL w' w.heap.size 77 3 v (pend.map wrC)) ∧ (i = 17 → ∃ m, v = .map (some m) ∧ w.heap.size ≤ m ∧ MapI w' m (fun _ => none))
theorem CloR.grew {w : World} {n i : Nat} {pend : List Wr} {v : Value} {w1 w2 : World} (hg : Grew w1 w2) (h : CloR w n pend i v w1) : CloR w n pend i v w2 := by
  refine ⟨fun hi => (h.1 hi).grew hg, fun hi => (h.2.1 hi).grew hg, fun hi => (h.2.2.1 hi).grew hg, fun hi => ?_⟩
  obtain ⟨m, h1, h2, h3⟩ := h.2.2.2 hi
  exact ⟨m, h1, h2, h3.grew hg⟩
set_option maxRecDepth 100000 in
set_option maxHeartbeats 8000000 in
theorem clone_any {w : World} {q : DevP} {D : Dev} (h : DevM w q D) (hpl : D.pend.length ≤ 1000000) : Calls Try.prog 25 #[.pointer (some ⟨q.x, 0, none⟩)] w fun e w' =>
    ∃ q', e = .returned (.pointer (some ⟨q'.x, 0, none⟩)) ∧ DevM w' q' D ∧ Grew w w' ∧ ∀ k, q'.feet k → w.heap.size ≤ k := by
  have HH := Lib.hid h
  have hb := h.blk
  have h1 := h.ok.pos
  have h2 := h.ok.lim
  obtain ⟨gs, cs, hvs, hgs, hcs, hcs2, hgsx⟩ := h.st_form
  obtain ⟨go, co, hvo, hgo, hco, hco2, hgox⟩ := h.old_form
  obtain ⟨Ap, cp, hvp, hpc, hpc2, hpl2⟩ := h.pend.listAt
  obtain ⟨Av, cv, hvv, hvc, hvc2, hvl2⟩ := h.sv.listAt
  obtain ⟨As, cs9, e9, _, _, hst9⟩ := h.st.listAt
  rw [hvs] at e9
  injection e9 with e91 e92 e93
  subst e91
  rw [List.length_map] at hvp hvv hpc hvc
  have HSL := Lib.hid hst9
  clear hst9 e92 e93
  rw [hvs, hvo, hvp, hvv] at hb
  generalize hn : D.st.length = n at *
  have HPL := Lib.hid hpl2
  have HVL := Lib.hid hvl2
  have HPE := Lib.hid hpl
  have HVS := Lib.hid hvs
  have HVO := Lib.hid hvo
  have HVP := Lib.hid hvp
  have HVV := Lib.hid hvv
  have HN := Lib.hid hn
  have hxl := hb.lt
  have HB := Lib.hid hb
  have hS0 : (fun w' : World => w'.cell? ⟨q.x, 0, none⟩ = some (.slice (some ⟨gs, 0, none⟩) n cs) ∧ w'.cell? ⟨q.x, 1, none⟩ = some (.slice (some ⟨go, 0, none⟩) n co) ∧ w'.cell? ⟨q.x, 2, none⟩ = some (.slice Ap D.pend.length cp) ∧ w'.cell? ⟨q.x, 4, none⟩ = some (.bool q.set) ∧ w'.cell? ⟨q.x, 5, none⟩ = some (.int .i64 q.left) ∧ w'.cell? ⟨q.x, 6, none⟩ = some (.slice Av q.svl.length cv) ∧ w'.cell? ⟨q.x, 7, none⟩ = some (.bool D.failed) ∧ q.x < w'.heap.size) w.drew := ⟨hb.drew.cell 0, hb.drew.cell 1, hb.drew.cell 2, hb.drew.cell 4, hb.drew.cell 5, hb.drew.cell 6, hb.drew.cell 7, hxl⟩
  have hSg : ∀ w1 w2, Grew w1 w2 → q.x < w1.heap.size → ∀ i, w2.cell? ⟨q.x, i, none⟩ = w1.cell? ⟨q.x, i, none⟩ := fun w1 w2 hg hl i => hg.cellEq _ _ hl
  have HSG := Lib.hid (show ∀ w1 w2, Grew w1 w2 → (fun w' : World => w'.cell? ⟨q.x, 0, none⟩ = some (.slice (some ⟨gs, 0, none⟩) n cs) ∧ w'.cell? ⟨q.x, 1, none⟩ = some (.slice (some ⟨go, 0, none⟩) n co) ∧ w'.cell? ⟨q.x, 2, none⟩ = some (.slice Ap D.pend.length cp) ∧ w'.cell? ⟨q.x, 4, none⟩ = some (.bool q.set) ∧ w'.cell? ⟨q.x, 5, none⟩ = some (.int .i64 q.left) ∧ w'.cell? ⟨q.x, 6, none⟩ = some (.slice Av q.svl.length cv) ∧ w'.cell? ⟨q.x, 7, none⟩ = some (.bool D.failed) ∧ q.x < w'.heap.size) w1 → (fun w' : World => w'.cell? ⟨q.x, 0, none⟩ = some (.slice (some ⟨gs, 0, none⟩) n cs) ∧ w'.cell? ⟨q.x, 1, none⟩ = some (.slice (some ⟨go, 0, none⟩) n co) ∧ w'.cell? ⟨q.x, 2, none⟩ = some (.slice Ap D.pend.length cp) ∧ w'.cell? ⟨q.x, 4, none⟩ = some (.bool q.set) ∧ w'.cell? ⟨q.x, 5, none⟩ = some (.int .i64 q.left) ∧ w'.cell? ⟨q.x, 6, none⟩ = some (.slice Av q.svl.length cv) ∧ w'.cell? ⟨q.x, 7, none⟩ = some (.bool D.failed) ∧ q.x < w'.heap.size) w2 from fun w1 w2 hg h => by
    have hl := h.2.2.2.2.2.2.2
    have e := fun i => hSg w1 w2 hg hl i
    simp only [e]
    exact ⟨h.1, h.2.1, h.2.2.1, h.2.2.2.1, h.2.2.2.2.1, h.2.2.2.2.2.1, h.2.2.2.2.2.2.1, Nat.lt_of_lt_of_le hl hg.size⟩)
  clear hSg h hb hpl2 hvl2 hpl hvs hvo hvp hvv hn
  go_enter Try.func25, Try.ntmps25
  go_wp2_with fail
  refine wp_region_R [] (fun w' : World => w'.cell? ⟨q.x, 0, none⟩ = some (.slice (some ⟨gs, 0, none⟩) n cs) ∧ w'.cell? ⟨q.x, 1, none⟩ = some (.slice (some ⟨go, 0, none⟩) n co) ∧ w'.cell? ⟨q.x, 2, none⟩ = some (.slice Ap D.pend.length cp) ∧ w'.cell? ⟨q.x, 4, none⟩ = some (.bool q.set) ∧ w'.cell? ⟨q.x, 5, none⟩ = some (.int .i64 q.left) ∧ w'.cell? ⟨q.x, 6, none⟩ = some (.slice Av q.svl.length cv) ∧ w'.cell? ⟨q.x, 7, none⟩ = some (.bool D.failed) ∧ q.x < w'.heap.size) (by kernel_rfl) ?_
  have hS := hS0
  refine wpAnyR_takeQ (i := 0) (v := ?_) (some 7) rfl rfl (by kernel_rfl) (by kernel_rfl) (by kernel_rfl) (by kernel_rfl) (fun _ _ _ h => h) (Or.inl ⟨by rfl, ?_⟩) ?_
  rotate_left
  focus (intro wS hSw; (try dsimp only at hSw); go_simp; (try with_reducible rfl); (try (first | (rw [if_pos (by omega)]; (try go_simp); (try with_reducible rfl)) | (rw [if_neg (by omega)]; (try go_simp); (try with_reducible rfl)))))
  try simp only [Act.put, List.setIfInBounds_toArray, List.set_cons_zero, List.set_cons_succ]
  refine wpAnyR_take (i := 1) (v := ?_) [2, 3, 4, 5, 26, 27, 28] (some 8) rfl rfl (by kernel_rfl) (by kernel_rfl) (by kernel_rfl) (by kernel_rfl) (by kernel_rfl) (by kernel_rfl) (by kernel_rfl) (fun _ _ _ h => h) (Or.inl ⟨by rfl, ?_⟩) hS ?_
  rotate_left
  focus (intro wS hSw; (try dsimp only at hSw); go_simp; (try with_reducible rfl); (try (first | (rw [if_pos (by omega)]; (try go_simp); (try with_reducible rfl)) | (rw [if_neg (by omega)]; (try go_simp); (try with_reducible rfl)))))
  try simp only [Act.put, List.setIfInBounds_toArray, List.set_cons_zero, List.set_cons_succ]
  refine wpAnyR_takeQ (i := 2) (v := ?_) (some 9) rfl rfl (by kernel_rfl) (by kernel_rfl) (by kernel_rfl) (by kernel_rfl) (fun _ _ _ h => h) (Or.inl ⟨by rfl, ?_⟩) ?_
  rotate_left
  focus (intro wS hSw; (try dsimp only at hSw); go_simp; (try with_reducible rfl); (try (first | (rw [if_pos (by omega)]; (try go_simp); (try with_reducible rfl)) | (rw [if_neg (by omega)]; (try go_simp); (try with_reducible rfl)))))
  try simp only [Act.put, List.setIfInBounds_toArray, List.set_cons_zero, List.set_cons_succ]
  refine wpAnyR_take (i := 3) (v := ?_) [4, 5, 26, 27, 28] (some 10) rfl rfl (by kernel_rfl) (by kernel_rfl) (by kernel_rfl) (by kernel_rfl) (by kernel_rfl) (by kernel_rfl) (by kernel_rfl) (fun _ _ _ h => h) (Or.inl ⟨by rfl, ?_⟩) hS ?_
  rotate_left
  focus (intro wS hSw; (try dsimp only at hSw); go_simp; (try with_reducible rfl); (try (first | (rw [if_pos (by omega)]; (try go_simp); (try with_reducible rfl)) | (rw [if_neg (by omega)]; (try go_simp); (try with_reducible rfl)))))
  try simp only [Act.put, List.setIfInBounds_toArray, List.set_cons_zero, List.set_cons_succ]
  refine wpAnyR_take (i := 4) (v := ?_) [5, 26, 27, 28] (some 11) rfl rfl (by kernel_rfl) (by kernel_rfl) (by kernel_rfl) (by kernel_rfl) (by kernel_rfl) (by kernel_rfl) (by kernel_rfl) (fun _ _ _ h => h) (Or.inl ⟨by rfl, ?_⟩) hS ?_
  rotate_left
  focus (intro wS hSw; (try dsimp only at hSw); go_simp; (try with_reducible rfl); (try (first | (rw [if_pos (by omega)]; (try go_simp); (try with_reducible rfl)) | (rw [if_neg (by omega)]; (try go_simp); (try with_reducible rfl)))))
  try simp only [Act.put, List.setIfInBounds_toArray, List.set_cons_zero, List.set_cons_succ]
  refine wpAnyR_takeQ (i := 6) (v := ?_) (some 13) rfl rfl (by kernel_rfl) (by kernel_rfl) (by kernel_rfl) (by kernel_rfl) (fun _ _ _ h => h) (Or.inl ⟨by rfl, ?_⟩) ?_
  rotate_left
  focus (intro wS hSw; (try dsimp only at hSw); go_simp; (try with_reducible rfl); (try (first | (rw [if_pos (by omega)]; (try go_simp); (try with_reducible rfl)) | (rw [if_neg (by omega)]; (try go_simp); (try with_reducible rfl)))))
  try simp only [Act.put, List.setIfInBounds_toArray, List.set_cons_zero, List.set_cons_succ]
  refine wpAnyR_take (i := 7) (v := ?_) [8, 9, 10, 11, 26, 27, 28] (some 14) rfl rfl (by kernel_rfl) (by kernel_rfl) (by kernel_rfl) (by kernel_rfl) (by kernel_rfl) (by kernel_rfl) (by kernel_rfl) (fun _ _ _ h => h) (Or.inl ⟨by rfl, ?_⟩) hS ?_
  rotate_left
  focus (intro wS hSw; (try dsimp only at hSw); go_simp; (try with_reducible rfl); (try (first | (rw [if_pos (by omega)]; (try go_simp); (try with_reducible rfl)) | (rw [if_neg (by omega)]; (try go_simp); (try with_reducible rfl)))))
  try simp only [Act.put, List.setIfInBounds_toArray, List.set_cons_zero, List.set_cons_succ]
  refine wpAnyR_takeQ (i := 8) (v := ?_) (some 15) rfl rfl (by kernel_rfl) (by kernel_rfl) (by kernel_rfl) (by kernel_rfl) (fun _ _ _ h => h) (Or.inl ⟨by rfl, ?_⟩) ?_
  rotate_left
  focus (intro wS hSw; (try dsimp only at hSw); go_simp; (try with_reducible rfl); (try (first | (rw [if_pos (by omega)]; (try go_simp); (try with_reducible rfl)) | (rw [if_neg (by omega)]; (try go_simp); (try with_reducible rfl)))))
  try simp only [Act.put, List.setIfInBounds_toArray, List.set_cons_zero, List.set_cons_succ]
  refine wpAnyR_take (i := 9) (v := ?_) [10, 11, 26, 27, 28] (some 16) rfl rfl (by kernel_rfl) (by kernel_rfl) (by kernel_rfl) (by kernel_rfl) (by kernel_rfl) (by kernel_rfl) (by kernel_rfl) (fun _ _ _ h => h) (Or.inl ⟨by rfl, ?_⟩) hS ?_
  rotate_left
  focus (intro wS hSw; (try dsimp only at hSw); go_simp; (try with_reducible rfl); (try (first | (rw [if_pos (by omega)]; (try go_simp); (try with_reducible rfl)) | (rw [if_neg (by omega)]; (try go_simp); (try with_reducible rfl)))))
  try simp only [Act.put, List.setIfInBounds_toArray, List.set_cons_zero, List.set_cons_succ]
  refine wpAnyR_take (i := 10) (v := ?_) [11, 26, 27, 28] (some 17) rfl rfl (by kernel_rfl) (by kernel_rfl) (by kernel_rfl) (by kernel_rfl) (by kernel_rfl) (by kernel_rfl) (by kernel_rfl) (fun _ _ _ h => h) (Or.inl ⟨by rfl, ?_⟩) hS ?_
  rotate_left
  focus (intro wS hSw; (try dsimp only at hSw); go_simp; (try with_reducible rfl); (try (first | (rw [if_pos (by omega)]; (try go_simp); (try with_reducible rfl)) | (rw [if_neg (by omega)]; (try go_simp); (try with_reducible rfl)))))
  try simp only [Act.put, List.setIfInBounds_toArray, List.set_cons_zero, List.set_cons_succ]
  refine wpAnyR_takeQ (i := 12) (v := ?_) (some 19) rfl rfl (by kernel_rfl) (by kernel_rfl) (by kernel_rfl) (by kernel_rfl) (fun _ _ _ h => h) (Or.inl ⟨by rfl, ?_⟩) ?_
  rotate_left
  focus (intro wS hSw; (try dsimp only at hSw); go_simp; (try with_reducible rfl); (try (first | (rw [if_pos (by omega)]; (try go_simp); (try with_reducible rfl)) | (rw [if_neg (by omega)]; (try go_simp); (try with_reducible rfl)))))
  try simp only [Act.put, List.setIfInBounds_toArray, List.set_cons_zero, List.set_cons_succ]
  refine wpAnyR_take (i := 13) (v := ?_) [14, 15, 16, 26, 27, 28] (some 20) rfl rfl (by kernel_rfl) (by kernel_rfl) (by kernel_rfl) (by kernel_rfl) (by kernel_rfl) (by kernel_rfl) (by kernel_rfl) (fun _ _ _ h => h) (Or.inl ⟨by rfl, ?_⟩) hS ?_
  rotate_left
  focus (intro wS hSw; (try dsimp only at hSw); go_simp; (try with_reducible rfl); (try (first | (rw [if_pos (by omega)]; (try go_simp); (try with_reducible rfl)) | (rw [if_neg (by omega)]; (try go_simp); (try with_reducible rfl)))))
  try simp only [Act.put, List.setIfInBounds_toArray, List.set_cons_zero, List.set_cons_succ]
  refine wpAnyR_takeQ (i := 14) (v := ?_) (some 21) rfl rfl (by kernel_rfl) (by kernel_rfl) (by kernel_rfl) (by kernel_rfl) (fun _ _ _ h => h) (Or.inl ⟨by rfl, ?_⟩) ?_
  rotate_left
  focus (intro wS hSw; (try dsimp only at hSw); go_simp; (try with_reducible rfl); (try (first | (rw [if_pos (by omega)]; (try go_simp); (try with_reducible rfl)) | (rw [if_neg (by omega)]; (try go_simp); (try with_reducible rfl)))))
  try simp only [Act.put, List.setIfInBounds_toArray, List.set_cons_zero, List.set_cons_succ]
  refine wpAnyR_take (i := 15) (v := ?_) [16, 26, 27, 28] (some 22) rfl rfl (by kernel_rfl) (by kernel_rfl) (by kernel_rfl) (by kernel_rfl) (by kernel_rfl) (by kernel_rfl) (by kernel_rfl) (fun _ _ _ h => h) (Or.inl ⟨by rfl, ?_⟩) hS ?_
  rotate_left
  focus (intro wS hSw; (try dsimp only at hSw); go_simp; (try with_reducible rfl); (try (first | (rw [if_pos (by omega)]; (try go_simp); (try with_reducible rfl)) | (rw [if_neg (by omega)]; (try go_simp); (try with_reducible rfl)))))
  try simp only [Act.put, List.setIfInBounds_toArray, List.set_cons_zero, List.set_cons_succ]
  refine wpAnyR_takeQ (i := 18) (v := ?_) (some 25) rfl rfl (by kernel_rfl) (by kernel_rfl) (by kernel_rfl) (by kernel_rfl) (fun _ _ _ h => h) (Or.inl ⟨by rfl, ?_⟩) ?_
  rotate_left
  focus (intro wS hSw; (try dsimp only at hSw); go_simp; (try with_reducible rfl); (try (first | (rw [if_pos (by omega)]; (try go_simp); (try with_reducible rfl)) | (rw [if_neg (by omega)]; (try go_simp); (try with_reducible rfl)))))
  try simp only [Act.put, List.setIfInBounds_toArray, List.set_cons_zero, List.set_cons_succ]
  refine wpAnyR_take (i := 19) (v := ?_) [20, 21, 26, 27, 28] (some 26) rfl rfl (by kernel_rfl) (by kernel_rfl) (by kernel_rfl) (by kernel_rfl) (by kernel_rfl) (by kernel_rfl) (by kernel_rfl) (fun _ _ _ h => h) (Or.inl ⟨by rfl, ?_⟩) hS ?_
  rotate_left
  focus (intro wS hSw; (try dsimp only at hSw); go_simp; (try with_reducible rfl); (try (first | (rw [if_pos (by omega)]; (try go_simp); (try with_reducible rfl)) | (rw [if_neg (by omega)]; (try go_simp); (try with_reducible rfl)))))
  try simp only [Act.put, List.setIfInBounds_toArray, List.set_cons_zero, List.set_cons_succ]
  refine wpAnyR_takeQ (i := 20) (v := ?_) (some 27) rfl rfl (by kernel_rfl) (by kernel_rfl) (by kernel_rfl) (by kernel_rfl) (fun _ _ _ h => h) (Or.inl ⟨by rfl, ?_⟩) ?_
  rotate_left
  focus (intro wS hSw; (try dsimp only at hSw); go_simp; (try with_reducible rfl); (try (first | (rw [if_pos (by omega)]; (try go_simp); (try with_reducible rfl)) | (rw [if_neg (by omega)]; (try go_simp); (try with_reducible rfl)))))
  try simp only [Act.put, List.setIfInBounds_toArray, List.set_cons_zero, List.set_cons_succ]
  refine wpAnyR_take (i := 21) (v := ?_) [26, 27, 28] (some 28) rfl rfl (by kernel_rfl) (by kernel_rfl) (by kernel_rfl) (by kernel_rfl) (by kernel_rfl) (by kernel_rfl) (by kernel_rfl) (fun _ _ _ h => h) (Or.inl ⟨by rfl, ?_⟩) hS ?_
  rotate_left
  focus (intro wS hSw; (try dsimp only at hSw); go_simp; (try with_reducible rfl); (try (first | (rw [if_pos (by omega)]; (try go_simp); (try with_reducible rfl)) | (rw [if_neg (by omega)]; (try go_simp); (try with_reducible rfl)))))
  try simp only [Act.put, List.setIfInBounds_toArray, List.set_cons_zero, List.set_cons_succ]
  refine wpAnyR_takeQ (i := 22) (v := ?_) (some 29) rfl rfl (by kernel_rfl) (by kernel_rfl) (by kernel_rfl) (by kernel_rfl) (fun _ _ _ h => h) (Or.inl ⟨by rfl, ?_⟩) ?_
  rotate_left
  focus (intro wS hSw; (try dsimp only at hSw); go_simp; (try with_reducible rfl); (try (first | (rw [if_pos (by omega)]; (try go_simp); (try with_reducible rfl)) | (rw [if_neg (by omega)]; (try go_simp); (try with_reducible rfl)))))
  try simp only [Act.put, List.setIfInBounds_toArray, List.set_cons_zero, List.set_cons_succ]
  refine wpAnyR_take (i := 23) (v := ?_) [24, 25, 26, 27, 28] (some 30) rfl rfl (by kernel_rfl) (by kernel_rfl) (by kernel_rfl) (by kernel_rfl) (by kernel_rfl) (by kernel_rfl) (by kernel_rfl) (fun _ _ _ h => h) (Or.inl ⟨by rfl, ?_⟩) hS ?_
  rotate_left
  focus (intro wS hSw; (try dsimp only at hSw); go_simp; (try with_reducible rfl); (try (first | (rw [if_pos (by omega)]; (try go_simp); (try with_reducible rfl)) | (rw [if_neg (by omega)]; (try go_simp); (try with_reducible rfl)))))
  try simp only [Act.put, List.setIfInBounds_toArray, List.set_cons_zero, List.set_cons_succ]
  refine wpAnyR_takeQ (i := 24) (v := ?_) (some 31) rfl rfl (by kernel_rfl) (by kernel_rfl) (by kernel_rfl) (by kernel_rfl) (fun _ _ _ h => h) (Or.inl ⟨by rfl, ?_⟩) ?_
  rotate_left
  focus (intro wS hSw; (try dsimp only at hSw); go_simp; (try with_reducible rfl); (try (first | (rw [if_pos (by omega)]; (try go_simp); (try with_reducible rfl)) | (rw [if_neg (by omega)]; (try go_simp); (try with_reducible rfl)))))
  try simp only [Act.put, List.setIfInBounds_toArray, List.set_cons_zero, List.set_cons_succ]
  refine wpAnyR_take (i := 25) (v := ?_) [26, 27, 28] (some 32) rfl rfl (by kernel_rfl) (by kernel_rfl) (by kernel_rfl) (by kernel_rfl) (by kernel_rfl) (by kernel_rfl) (by kernel_rfl) (fun _ _ _ h => h) (Or.inl ⟨by rfl, ?_⟩) hS ?_
  rotate_left
  focus (intro wS hSw; (try dsimp only at hSw); go_simp; (try with_reducible rfl); (try (first | (rw [if_pos (by omega)]; (try go_simp); (try with_reducible rfl)) | (rw [if_neg (by omega)]; (try go_simp); (try with_reducible rfl)))))
  try simp only [Act.put, List.setIfInBounds_toArray, List.set_cons_zero, List.set_cons_succ]
  refine wpAnyR_par [(5, 12), (11, 18), (16, 23), (17, 24)] (CloR w n D.pend) (fuel := 3) rfl (by kernel_rfl) (fun i v w1 w2 hg h => h.grew hg) HSG.out ?_ ?_
  · intro p hp a' w' hg hev K' hK
    have e11 : a'.eval (.tmp 11) = .int .i64 (n : Int) := (hev 11 (by decide)).trans rfl
    have e17 : a'.eval (.tmp 17) = .int .i64 (n : Int) := (hev 17 (by decide)).trans rfl
    have e22 : a'.eval (.tmp 22) = .slice Ap D.pend.length cp := (hev 22 (by decide)).trans rfl
    rcases List.mem_cons.1 hp with rfl | hp
    · refine ⟨_, rfl, ?_⟩
      rw [if_pos (by rfl)]
      refine wp_make 27 (.tmp 11) (.tmp 11) rfl e11 e11 (made_one w' n Try.underlying27 info_str rfl (by omega) (by omega)) ?_
      refine hK.out _ _ ((Grew.refl w').alloc _) ⟨fun _ => OwnL.made w' w.heap.size _ n _ hg.size (by omega) rfl, fun h => absurd h (by decide), fun h => absurd h (by decide), fun h => absurd h (by decide)⟩
    · rcases List.mem_cons.1 hp with rfl | hp
      · refine ⟨_, rfl, ?_⟩
        rw [if_pos (by rfl)]
        refine wp_make 28 (.tmp 17) (.tmp 17) rfl e17 e17 (made_one w' n Try.underlying28 info_strs rfl (by omega) (by omega)) ?_
        refine hK.out _ _ ((Grew.refl w').alloc _) ⟨fun h => absurd h (by decide), fun _ => OwnL.made w' w.heap.size _ n _ hg.size (by omega) rfl, fun h => absurd h (by decide), fun h => absurd h (by decide)⟩
      · rcases List.mem_cons.1 hp with rfl | hp
        · refine ⟨_, rfl, ?_⟩
          rw [if_pos (by rfl)]
          refine wp_call1 39 (.tmp 22) _ rfl e22 (by simp [execOp, resolve, go_sem]; simpa [go_sem] using e22) (clone_wr Ap cp D.pend.length D.pend w' rfl HPE.out ((HPL.out.keep (Nat.le_refl _) (Grew.drew (Grew.refl w) |>.trans hg)).mono (Nat.le_trans (Nat.le_refl _) hg.size))) ?_
          rintro e w'' ⟨v, rfl, hown, hg2⟩
          refine ⟨v, rfl, hK.out _ _ hg2 ⟨fun h => absurd h (by decide), fun h => absurd h (by decide), fun _ => hown.lower hg.size, fun h => absurd h (by decide)⟩⟩
        · obtain rfl := List.mem_singleton.1 hp
          refine ⟨_, rfl, ?_⟩
          rw [if_pos (by rfl)]
          refine wp_makeMap 64 rfl ?_
          exact hK.out _ _ ((Grew.refl w').alloc _) ⟨fun h => absurd h (by decide), fun h => absurd h (by decide), fun h => absurd h (by decide), fun _ => ⟨w'.heap.size, rfl, hg.size, MapIs.made w' rfl⟩⟩
  · intro vals w1 hg1 hR
    have h3 := (hR (5, 12) (by decide)).1 rfl
    have h4 := (hR (11, 18) (by decide)).2.1 rfl
    have h8 := (hR (16, 23) (by decide)).2.2.1 rfl
    obtain ⟨m, h5, h6, h7⟩ := (hR (17, 24) (by decide)).2.2.2 rfl
    have hS := trivial
    simp only [putL, setL, if_true, Act.put, List.setIfInBounds_toArray, List.set_cons_zero, List.set_cons_succ]
    generalize vals 5 = v1 at *
    generalize vals 11 = v3 at *
    generalize vals 16 = v8 at *
    rw [h5]
    clear h5 hR
    obtain ⟨g1, c1, rfl, hb1, hl1, hn1, hc1⟩ : ∃ g c, v1 = .slice (some ⟨g, 0, none⟩) n c ∧ w.heap.size ≤ g ∧ g < w1.heap.size ∧ n ≤ c ∧ c ≤ 9223372036854775807 := by
      rcases h3.form with ⟨_, h0⟩ | ⟨g, c, e1, e2, e3, e4, e5⟩
      · have := congrArg List.length h0; simp at this; omega
      · rw [List.length_replicate] at e1 e4; exact ⟨g, c, e1, e2, e3, e4, e5⟩
    obtain ⟨g3, c3, rfl, hb3, hl3, hn3, hc3⟩ : ∃ g c, v3 = .slice (some ⟨g, 0, none⟩) n c ∧ w.heap.size ≤ g ∧ g < w1.heap.size ∧ n ≤ c ∧ c ≤ 9223372036854775807 := by
      rcases h4.form with ⟨_, h0⟩ | ⟨g, c, e1, e2, e3, e4, e5⟩
      · have := congrArg List.length h0; simp at this; omega
      · rw [List.length_replicate] at e1 e4; exact ⟨g, c, e1, e2, e3, e4, e5⟩
    obtain ⟨A8, c8, rfl, hn8, hc8, _⟩ := h8.listAt
    rw [List.length_map] at h8 hn8
    have H3 := Lib.hid h3
    have H4 := Lib.hid h4
    have H7 := Lib.hid h7
    have H8 := Lib.hid h8
    have HG1 := Lib.hid hg1
    clear h3 h4 h7 h8 hg1
    refine wpAnyR_takeQ (i := 26) (v := ?_) (some 33) rfl rfl (by kernel_rfl) (by kernel_rfl) (by kernel_rfl) (by kernel_rfl) (fun _ _ _ h => h) (Or.inl ⟨by rfl, ?_⟩) ?_
    rotate_left
    focus (intro wS hSw; (try dsimp only at hSw); go_simp; (try with_reducible rfl); (try (first | (rw [if_pos (by omega)]; (try go_simp); (try with_reducible rfl)) | (rw [if_neg (by omega)]; (try go_simp); (try with_reducible rfl)))))
    try simp only [Act.put, List.setIfInBounds_toArray, List.set_cons_zero, List.set_cons_succ]
    refine wpAnyR_n1 (i := 27) rfl (by kernel_rfl) ?_
    intro K' hK
    rw [if_pos (by rfl)]
    simp only [List.getElem_toArray, List.getElem_cons_succ, List.getElem_cons_zero]
    go_wp2_with fail
    refine hK.out _ _ (.inr (HSG.out _ _ ((Grew.refl w1).alloc _))) ?_
    clear hK hS
    have hS := trivial
    refine wpAnyR_takeQ (i := 28) (v := ?_) (some 3) rfl rfl (by kernel_rfl) (by kernel_rfl) (by kernel_rfl) (by kernel_rfl) (fun _ _ _ h => h) (Or.inl ⟨by rfl, ?_⟩) ?_
    rotate_left
    focus (intro wS hSw; (try dsimp only at hSw); go_simp; (try with_reducible rfl); (try (first | (rw [if_pos (by omega)]; (try go_simp); (try with_reducible rfl)) | (rw [if_neg (by omega)]; (try go_simp); (try with_reducible rfl)))))
    try simp only [Act.put, List.setIfInBounds_toArray, List.set_cons_zero, List.set_cons_succ]
    refine wpAnyR_done (by kernel_rfl) ?_ _
    clear hS
    have hbx := Blk.new w1 69 #[.slice (some ⟨g1, 0, none⟩) n c1, .slice (some ⟨g3, 0, none⟩) n c3, .slice A8 D.pend.length c8, .map (some m), .bool q.set, .int .i64 q.left, .slice Av q.svl.length cv, .bool D.failed] rfl
    have hg2 := (Grew.refl w1).alloc (.cells #[.slice (some ⟨g1, 0, none⟩) n c1, .slice (some ⟨g3, 0, none⟩) n c3, .slice A8 D.pend.length c8, .map (some m), .bool q.set, .int .i64 q.left, .slice Av q.svl.length cv, .bool D.failed] 69)
    obtain ⟨w2, hw2⟩ : ∃ w2, w2 = w1.alloc (.cells #[.slice (some ⟨g1, 0, none⟩) n c1, .slice (some ⟨g3, 0, none⟩) n c3, .slice A8 D.pend.length c8, .map (some m), .bool q.set, .int .i64 q.left, .slice Av q.svl.length cv, .bool D.failed] 69) := ⟨_, rfl⟩
    rw [← hw2] at hbx hg2 ⊢
    clear hw2
    have hx1 : w1.heap.size < w2.heap.size := hbx.lt
    have HX := Lib.hid hbx
    have HG2 := Lib.hid hg2
    have hd2 := HB.out.grew ((Grew.drew (Grew.refl w)).trans (HG1.out.trans hg2))
    have hS1 : (fun w' : World => w'.cell? ⟨w1.heap.size, 0, none⟩ = some (.slice (some ⟨g1, 0, none⟩) n c1) ∧ w'.cell? ⟨q.x, 0, none⟩ = some (.slice (some ⟨gs, 0, none⟩) n cs)) w2.drew := ⟨hbx.drew.cell 0, hd2.drew.cell 0⟩
    clear hbx hg2
    go_wp2_with fail
    refine wp_region_R [] (fun w' : World => w'.cell? ⟨w1.heap.size, 0, none⟩ = some (.slice (some ⟨g1, 0, none⟩) n c1) ∧ w'.cell? ⟨q.x, 0, none⟩ = some (.slice (some ⟨gs, 0, none⟩) n cs)) (by kernel_rfl) ?_
    have hS := hS1
    refine wpAnyR_takeQ (i := 0) (v := ?_) (some 35) rfl rfl (by kernel_rfl) (by kernel_rfl) (by kernel_rfl) (by kernel_rfl) (fun _ _ _ h => h) (Or.inl ⟨by rfl, ?_⟩) ?_
    rotate_left
    focus (intro wS hSw; (try dsimp only at hSw); go_simp; (try with_reducible rfl); (try (first | (rw [if_pos (by omega)]; (try go_simp); (try with_reducible rfl)) | (rw [if_neg (by omega)]; (try go_simp); (try with_reducible rfl)))))
    try simp only [Act.put, List.setIfInBounds_toArray, List.set_cons_zero, List.set_cons_succ]
    refine wpAnyR_take (i := 1) (v := ?_) [2, 3, 8] (some 36) rfl rfl (by kernel_rfl) (by kernel_rfl) (by kernel_rfl) (by kernel_rfl) (by kernel_rfl) (by kernel_rfl) (by kernel_rfl) (fun _ _ _ h => h) (Or.inl ⟨by rfl, ?_⟩) hS ?_
    rotate_left
    focus (intro wS hSw; (try dsimp only at hSw); go_simp; (try with_reducible rfl); (try (first | (rw [if_pos (by omega)]; (try go_simp); (try with_reducible rfl)) | (rw [if_neg (by omega)]; (try go_simp); (try with_reducible rfl)))))
    try simp only [Act.put, List.setIfInBounds_toArray, List.set_cons_zero, List.set_cons_succ]
    refine wpAnyR_takeQ (i := 2) (v := ?_) (some 37) rfl rfl (by kernel_rfl) (by kernel_rfl) (by kernel_rfl) (by kernel_rfl) (fun _ _ _ h => h) (Or.inl ⟨by rfl, ?_⟩) ?_
    rotate_left
    focus (intro wS hSw; (try dsimp only at hSw); go_simp; (try with_reducible rfl); (try (first | (rw [if_pos (by omega)]; (try go_simp); (try with_reducible rfl)) | (rw [if_neg (by omega)]; (try go_simp); (try with_reducible rfl)))))
    try simp only [Act.put, List.setIfInBounds_toArray, List.set_cons_zero, List.set_cons_succ]
    refine wpAnyR_take (i := 3) (v := ?_) [8] (some 38) rfl rfl (by kernel_rfl) (by kernel_rfl) (by kernel_rfl) (by kernel_rfl) (by kernel_rfl) (by kernel_rfl) (by kernel_rfl) (fun _ _ _ h => h) (Or.inl ⟨by rfl, ?_⟩) hS ?_
    rotate_left
    focus (intro wS hSw; (try dsimp only at hSw); go_simp; (try with_reducible rfl); (try (first | (rw [if_pos (by omega)]; (try go_simp); (try with_reducible rfl)) | (rw [if_neg (by omega)]; (try go_simp); (try with_reducible rfl)))))
    try simp only [Act.put, List.setIfInBounds_toArray, List.set_cons_zero, List.set_cons_succ]
    refine wpAnyR_takeQ (i := 4) (v := ?_) (some 39) rfl rfl (by kernel_rfl) (by kernel_rfl) (by kernel_rfl) (by kernel_rfl) (fun _ _ _ h => h) (Or.inl ⟨by rfl, ?_⟩) ?_
    rotate_left
    focus (intro wS hSw; (try dsimp only at hSw); go_simp; (try with_reducible rfl); (try (first | (rw [if_pos (by omega)]; (try go_simp); (try with_reducible rfl)) | (rw [if_neg (by omega)]; (try go_simp); (try with_reducible rfl)))))
    try simp only [Act.put, List.setIfInBounds_toArray, List.set_cons_zero, List.set_cons_succ]
    refine wpAnyR_take (i := 5) (v := ?_) [6, 7, 8] (some 40) rfl rfl (by kernel_rfl) (by kernel_rfl) (by kernel_rfl) (by kernel_rfl) (by kernel_rfl) (by kernel_rfl) (by kernel_rfl) (fun _ _ _ h => h) (Or.inl ⟨by rfl, ?_⟩) hS ?_
    rotate_left
    focus (intro wS hSw; (try dsimp only at hSw); go_simp; (try with_reducible rfl); (try (first | (rw [if_pos (by omega)]; (try go_simp); (try with_reducible rfl)) | (rw [if_neg (by omega)]; (try go_simp); (try with_reducible rfl)))))
    try simp only [Act.put, List.setIfInBounds_toArray, List.set_cons_zero, List.set_cons_succ]
    refine wpAnyR_takeQ (i := 6) (v := ?_) (some 41) rfl rfl (by kernel_rfl) (by kernel_rfl) (by kernel_rfl) (by kernel_rfl) (fun _ _ _ h => h) (Or.inl ⟨by rfl, ?_⟩) ?_
    rotate_left
    focus (intro wS hSw; (try dsimp only at hSw); go_simp; (try with_reducible rfl); (try (first | (rw [if_pos (by omega)]; (try go_simp); (try with_reducible rfl)) | (rw [if_neg (by omega)]; (try go_simp); (try with_reducible rfl)))))
    try simp only [Act.put, List.setIfInBounds_toArray, List.set_cons_zero, List.set_cons_succ]
    refine wpAnyR_take (i := 7) (v := ?_) [8] (some 42) rfl rfl (by kernel_rfl) (by kernel_rfl) (by kernel_rfl) (by kernel_rfl) (by kernel_rfl) (by kernel_rfl) (by kernel_rfl) (fun _ _ _ h => h) (Or.inl ⟨by rfl, ?_⟩) hS ?_
    rotate_left
    focus (intro wS hSw; (try dsimp only at hSw); go_simp; (try with_reducible rfl); (try (first | (rw [if_pos (by omega)]; (try go_simp); (try with_reducible rfl)) | (rw [if_neg (by omega)]; (try go_simp); (try with_reducible rfl)))))
    try simp only [Act.put, List.setIfInBounds_toArray, List.set_cons_zero, List.set_cons_succ]
    refine wpAnyR_n1 (i := 8) rfl (by kernel_rfl) ?_
    intro K' hK
    rw [if_pos (by rfl)]
    simp only [List.getElem_toArray, List.getElem_cons_succ, List.getElem_cons_zero]
    refine wp_copy_whole (.tmp 38) (.tmp 42) 27 27 9 rfl Try.underlying27 (by kernel_rfl) (l := D.st.map .string) (by rw [List.length_map]; exact HN.out) (by omega) ((H3.out.grew HG2.out).drew) ((by
      have h9 := (HSL.out.keep (Nat.le_refl _) ((Grew.drew (Grew.refl w)).trans (HG1.out.trans (HG2.out.drew)))).mono (Nat.le_trans (Grew.drew (Grew.refl w)).size (HG1.out.trans (HG2.out.drew)).size)
      rw [List.map_map]; exact h9)) (by intro v hv; obtain ⟨x, _, rfl⟩ := List.mem_map.1 hv; rfl) rfl rfl ?_
    intro w3 ho3 ht3
    have hng1 : ¬ w1.heap.size = g1 := by omega
    have hqlt : q.x < g1 := by omega
    have ht23 : Turned (fun k => k = g1) w1 w3 := (HG2.out.turned _).drew.trans ht3
    have HO3 := Lib.hid (show OwnL w3 w.heap.size 9 1 (.slice (some ⟨g1, 0, none⟩) n c1) (D.st.map strC) from (by rw [List.map_map] at ho3; exact ho3))
    have GW3 := Lib.hid (show Grew w w3 from ((Grew.drew (Grew.refl w)).trans HG1.out).turn ht23 (fun k hk => by omega))
    have HX3 := Lib.hid ((HX.out.drew).turned ht3 hng1)
    have HT23 := Lib.hid ht23
    have hz3 : w2.heap.size ≤ w3.heap.size := ht3.size
    refine hK.out _ _ (.inr (fun _ => ⟨HX3.out.cell 0, (HB.out.grew GW3.out).cell 0⟩)) ?_
    clear hK hS hS1 ho3 ht3 ht23
    refine wpAnyR_done (by kernel_rfl) ?_ _
    have hne13 : g3 ≠ g1 := by
      have h1 := H3.out
      have h2 := H4.out
      intro e
      exact own_own_ne h1 h2 (by decide) g1 rfl (by rw [e]; rfl)
    have HO4 := Lib.hid (H4.out.kept HT23.out (fun g hg e => hne13 (by injection hg with hg; exact hg.trans e)))
    have HO8 := Lib.hid (H8.out.kept HT23.out (fun g hg e => own_own_ne H3.out H8.out (by decide) g1 rfl (by rw [← e]; exact hg)))
    have HM7 := Lib.hid (H7.out.turned HT23.out (fun e => own_map_ne H3.out H7.out (by rw [e]; rfl)))
    have hd3 := HB.out.grew GW3.out
    have y1 := hd3.cell 1
    have hyl := hd3.lt
    clear hd3 hS0
    go_wp2_with fail
    go_loopg [49] n (fun gk iv wr => ∃ (j : Nat) (os1 : List Value), j ≤ n ∧ gk = n - j ∧ iv = .int .i64 (j : Int) ∧ os1.length = j ∧ OwnL wr w.heap.size 27 1 (.slice (some ⟨g3, 0, none⟩) n c3) ((os1 ++ List.replicate (n - j) (Value.slice none 0 0)).map fun v => [v]) ∧ (∀ (i : Nat) (v : Value) (l : List ByteArray), os1[i]? = some v → D.old[i]? = some l → OwnL wr w3.heap.size 9 1 v (l.map strC)) ∧ Turned (fun k => k = g3) w3 wr)
    case atStart => exact ⟨0, [], by omega, rfl, rfl, rfl, by rw [List.nil_append, List.map_replicate]; exact HO4.out, fun i v l h => (by cases h), Turned.refl _ _⟩
    case round =>
      obtain ⟨j, os1, hj, hgk, rfl, hos, hor, hea, htr⟩ := hrel
      have HGK := Lib.hid hgk
      have HTR := Lib.hid htr
      have HEA := Lib.hid hea
      have HOR := Lib.hid hor
      have HOS := Lib.hid hos
      have hzr := htr.size
      have hxg : ¬ w1.heap.size = g3 := by omega
      have GWR := Lib.hid (show Grew w wr from GW3.out.turn htr (fun k hk => by omega))
      have HXR := Lib.hid (HX3.out.turned htr hxg)
      have hdr := HB.out.grew GWR.out
      clear hgk hea htr hos y1
      by_cases hlt : j < n
      · obtain ⟨vj, hvj, hoj, _⟩ := (HH.out.grew GWR.out).old_at (i := j) (by rw [HN.out]; exact hlt)
        have hcj := (HH.out.grew GWR.out).old_cell (by rw [HN.out]; exact HVO.out) hvj
        obtain ⟨Aj, cj, rfl, hlj, hcj2, hlaj⟩ := hoj.listAt
        rw [List.length_map] at hlj hcj
        have HLJ := Lib.hid hlaj
        have hold : D.old[j]? = some (D.olds j) := by
          unfold Dev.olds
          have : j < D.old.length := by rw [HH.out.ok.len, HN.out]; exact hlt
          rw [List.getD_eq_getElem?_getD, List.getElem?_eq_getElem this]; rfl
        have hlen := HH.out.ok.old _ (List.mem_of_getElem? hold)
        have HLEN := Lib.hid hlen
        have HOLD := Lib.hid hold
        have HDR := Lib.hid hdr
        have HCJ := Lib.hid hcj
        have hgr : go < wr.heap.size := Nat.lt_of_lt_of_le hgo GWR.out.size
        have hS2 : (fun w' : World => w'.cell? ⟨w1.heap.size, 1, none⟩ = some (.slice (some ⟨g3, 0, none⟩) n c3) ∧ w'.cell? ⟨q.x, 1, none⟩ = some (.slice (some ⟨go, 0, none⟩) n co) ∧ w'.cell? ⟨go, j, none⟩ = some (.slice Aj (D.olds j).length cj)) wr.drew := ⟨HXR.out.drew.cell 1, hdr.drew.cell 1, hcj⟩
        have z1 := hdr.cell 1
        have zl := hdr.lt
        clear hdr hvj hoj hlaj hold hlen hcj
        go_wp2_with fail
        refine wp_region_R [] (fun w' : World => w'.cell? ⟨w1.heap.size, 1, none⟩ = some (.slice (some ⟨g3, 0, none⟩) n c3) ∧ w'.cell? ⟨q.x, 1, none⟩ = some (.slice (some ⟨go, 0, none⟩) n co) ∧ w'.cell? ⟨go, j, none⟩ = some (.slice Aj (D.olds j).length cj)) (by kernel_rfl) ?_
        have hS := hS2
        refine wpAnyR_takeQ (i := 0) (v := ?_) (some 52) rfl rfl (by kernel_rfl) (by kernel_rfl) (by kernel_rfl) (by kernel_rfl) (fun _ _ _ h => h) (Or.inl ⟨by rfl, ?_⟩) ?_
        rotate_left
        focus (intro wS hSw; (try dsimp only at hSw); go_simp; (try with_reducible rfl); (try (first | (rw [if_pos (by omega)]; (try go_simp); (try with_reducible rfl)) | (rw [if_neg (by omega)]; (try go_simp); (try with_reducible rfl)))))
        try simp only [Act.put, List.setIfInBounds_toArray, List.set_cons_zero, List.set_cons_succ]
        refine wpAnyR_take (i := 1) (v := ?_) [2, 3, 13, 14] (some 53) rfl rfl (by kernel_rfl) (by kernel_rfl) (by kernel_rfl) (by kernel_rfl) (by kernel_rfl) (by kernel_rfl) (by kernel_rfl) (fun _ _ _ h => h) (Or.inl ⟨by rfl, ?_⟩) hS ?_
        rotate_left
        focus (intro wS hSw; (try dsimp only at hSw); go_simp; (try with_reducible rfl); (try (first | (rw [if_pos (by omega)]; (try go_simp); (try with_reducible rfl)) | (rw [if_neg (by omega)]; (try go_simp); (try with_reducible rfl)))))
        try simp only [Act.put, List.setIfInBounds_toArray, List.set_cons_zero, List.set_cons_succ]
        refine wpAnyR_takeQ (i := 2) (v := ?_) (some 54) rfl rfl (by kernel_rfl) (by kernel_rfl) (by kernel_rfl) (by kernel_rfl) (fun _ _ _ h => h) (Or.inl ⟨by rfl, ?_⟩) ?_
        rotate_left
        focus (intro wS hSw; (try dsimp only at hSw); go_simp; (try with_reducible rfl); (try (first | (rw [if_pos (by omega)]; (try go_simp); (try with_reducible rfl)) | (rw [if_neg (by omega)]; (try go_simp); (try with_reducible rfl)))))
        try simp only [Act.put, List.setIfInBounds_toArray, List.set_cons_zero, List.set_cons_succ]
        refine wpAnyR_take (i := 3) (v := ?_) [13, 14] (some 55) rfl rfl (by kernel_rfl) (by kernel_rfl) (by kernel_rfl) (by kernel_rfl) (by kernel_rfl) (by kernel_rfl) (by kernel_rfl) (fun _ _ _ h => h) (Or.inl ⟨by rfl, ?_⟩) hS ?_
        rotate_left
        focus (intro wS hSw; (try dsimp only at hSw); go_simp; (try with_reducible rfl); (try (first | (rw [if_pos (by omega)]; (try go_simp); (try with_reducible rfl)) | (rw [if_neg (by omega)]; (try go_simp); (try with_reducible rfl)))))
        try simp only [Act.put, List.setIfInBounds_toArray, List.set_cons_zero, List.set_cons_succ]
        refine wpAnyR_takeQ (i := 4) (v := ?_) (some 56) rfl rfl (by kernel_rfl) (by kernel_rfl) (by kernel_rfl) (by kernel_rfl) (fun _ _ _ h => h) (Or.inl ⟨by rfl, ?_⟩) ?_
        rotate_left
        focus (intro wS hSw; (try dsimp only at hSw); go_simp; (try with_reducible rfl); (try (first | (rw [if_pos (by omega)]; (try go_simp); (try with_reducible rfl)) | (rw [if_neg (by omega)]; (try go_simp); (try with_reducible rfl)))))
        try simp only [Act.put, List.setIfInBounds_toArray, List.set_cons_zero, List.set_cons_succ]
        refine wpAnyR_takeQ (i := 5) (v := ?_) (some 57) rfl rfl (by kernel_rfl) (by kernel_rfl) (by kernel_rfl) (by kernel_rfl) (fun _ _ _ h => h) (Or.inl ⟨by rfl, ?_⟩) ?_
        rotate_left
        focus (intro wS hSw; (try dsimp only at hSw); go_simp; (try with_reducible rfl); (try (first | (rw [if_pos (by omega)]; (try go_simp); (try with_reducible rfl)) | (rw [if_neg (by omega)]; (try go_simp); (try with_reducible rfl)))))
        try simp only [Act.put, List.setIfInBounds_toArray, List.set_cons_zero, List.set_cons_succ]
        refine wpAnyR_take (i := 6) (v := ?_) [7, 8, 10, 11, 12, 13, 14] (some 58) rfl rfl (by kernel_rfl) (by kernel_rfl) (by kernel_rfl) (by kernel_rfl) (by kernel_rfl) (by kernel_rfl) (by kernel_rfl) (fun _ _ _ h => h) (Or.inl ⟨by rfl, ?_⟩) hS ?_
        rotate_left
        focus (intro wS hSw; (try dsimp only at hSw); go_simp; (try with_reducible rfl); (try (first | (rw [if_pos (by omega)]; (try go_simp); (try with_reducible rfl)) | (rw [if_neg (by omega)]; (try go_simp); (try with_reducible rfl)))))
        try simp only [Act.put, List.setIfInBounds_toArray, List.set_cons_zero, List.set_cons_succ]
        refine wpAnyR_takeQ (i := 7) (v := ?_) (some 59) rfl rfl (by kernel_rfl) (by kernel_rfl) (by kernel_rfl) (by kernel_rfl) (fun _ _ _ h => h) (Or.inl ⟨by rfl, ?_⟩) ?_
        rotate_left
        focus (intro wS hSw; (try dsimp only at hSw); go_simp; (try with_reducible rfl); (try (first | (rw [if_pos (by omega)]; (try go_simp); (try with_reducible rfl)) | (rw [if_neg (by omega)]; (try go_simp); (try with_reducible rfl)))))
        try simp only [Act.put, List.setIfInBounds_toArray, List.set_cons_zero, List.set_cons_succ]
        refine wpAnyR_take (i := 8) (v := ?_) [10, 11, 12, 13, 14] (some 60) rfl rfl (by kernel_rfl) (by kernel_rfl) (by kernel_rfl) (by kernel_rfl) (by kernel_rfl) (by kernel_rfl) (by kernel_rfl) (fun _ _ _ h => h) (Or.inl ⟨by rfl, ?_⟩) hS ?_
        rotate_left
        focus (intro wS hSw; (try dsimp only at hSw); go_simp; (try with_reducible rfl); (try (first | (rw [if_pos (by omega)]; (try go_simp); (try with_reducible rfl)) | (rw [if_neg (by omega)]; (try go_simp); (try with_reducible rfl)))))
        try simp only [Act.put, List.setIfInBounds_toArray, List.set_cons_zero, List.set_cons_succ]
        refine wpAnyR_takeQ (i := 9) (v := ?_) (some 61) rfl rfl (by kernel_rfl) (by kernel_rfl) (by kernel_rfl) (by kernel_rfl) (fun _ _ _ h => h) (Or.inl ⟨by rfl, ?_⟩) ?_
        rotate_left
        focus (intro wS hSw; (try dsimp only at hSw); go_simp; (try with_reducible rfl); (try (first | (rw [if_pos (by omega)]; (try go_simp); (try with_reducible rfl)) | (rw [if_neg (by omega)]; (try go_simp); (try with_reducible rfl)))))
        try simp only [Act.put, List.setIfInBounds_toArray, List.set_cons_zero, List.set_cons_succ]
        refine wpAnyR_takeQ (i := 10) (v := ?_) (some 62) rfl rfl (by kernel_rfl) (by kernel_rfl) (by kernel_rfl) (by kernel_rfl) (fun _ _ _ h => h) (Or.inl ⟨by rfl, ?_⟩) ?_
        rotate_left
        focus (intro wS hSw; (try dsimp only at hSw); go_simp; (try with_reducible rfl); (try (first | (rw [if_pos (by omega)]; (try go_simp); (try with_reducible rfl)) | (rw [if_neg (by omega)]; (try go_simp); (try with_reducible rfl)))))
        try simp only [Act.put, List.setIfInBounds_toArray, List.set_cons_zero, List.set_cons_succ]
        refine wpAnyR_take (i := 11) (v := ?_) [12, 13, 14] (some 63) rfl rfl (by kernel_rfl) (by kernel_rfl) (by kernel_rfl) (by kernel_rfl) (by kernel_rfl) (by kernel_rfl) (by kernel_rfl) (fun _ _ _ h => h) (Or.inl ⟨by rfl, ?_⟩) hS ?_
        rotate_left
        focus (intro wS hSw; (try dsimp only at hSw); go_simp; (try with_reducible rfl); (try (first | (rw [if_pos (by omega)]; (try go_simp); (try with_reducible rfl)) | (rw [if_neg (by omega)]; (try go_simp); (try with_reducible rfl)))))
        try simp only [Act.put, List.setIfInBounds_toArray, List.set_cons_zero, List.set_cons_succ]
        refine wpAnyR_n1 (i := 12) rfl (by kernel_rfl) ?_
        intro K' hK
        rw [if_pos (by rfl)]
        simp only [List.getElem_toArray, List.getElem_cons_succ, List.getElem_cons_zero]
        go_wp2_with fail
        refine (clone_str Aj cj _ (D.olds j) wr.drew rfl (by have := HLEN.out.1; omega) HLJ.out).mono ?_
        rintro e wb ⟨vb, rfl, hob, hgb⟩
        go_wp2_with fail
        obtain ⟨Ab, cb, rfl, hlb, hcb, _⟩ := hob.listAt
        rw [List.length_map] at hob hlb
        have hgg : go ≠ g3 := by omega
        have hqg : q.x ≠ g3 := by omega
        refine hK.out _ _ (.inr (fun h => ⟨(HXR.out.drew.grew hgb).cell 1, (HDR.out.drew.grew hgb).cell 1, (hgb.cellEq _ _ hgr).trans HCJ.out⟩)) ?_
        clear hK hS hS2
        have hS := trivial
        refine wpAnyR_takeQ (i := 13) (v := ?_) (some 65) rfl rfl (by kernel_rfl) (by kernel_rfl) (by kernel_rfl) (by kernel_rfl) (fun _ _ _ h => h) (Or.inl ⟨by rfl, ?_⟩) ?_
        rotate_left
        focus (intro wS hSw; (try dsimp only at hSw); go_simp; (try with_reducible rfl); (try (first | (rw [if_pos (by omega)]; (try go_simp); (try with_reducible rfl)) | (rw [if_neg (by omega)]; (try go_simp); (try with_reducible rfl)))))
        try simp only [Act.put, List.setIfInBounds_toArray, List.set_cons_zero, List.set_cons_succ]
        rw [List.length_map]
        have hrow : ((os1 ++ List.replicate (n - j) (Value.slice none 0 0)).map fun v => [v])[j]? = some [Value.slice none 0 0] := by
          rw [List.getElem?_map, List.getElem?_append_right (by rw [HOS.out]; omega), HOS.out, Nat.sub_self, List.getElem?_replicate, if_pos (by omega)]; rfl
        have hob3 := (HOR.out.drew).grew hgb
        have c0 := hob3.cell (i := 0) hrow rfl
        rw [Nat.mul_one, Nat.add_zero] at c0
        have f0 := hob3.frozen j
        have hs := hob3.set_ (j := j) (i := 0) (o := j) hrow (by omega) (by omega) (.slice Ab (D.olds j).length cb)
        have he : ((os1 ++ List.replicate (n - j) (Value.slice none 0 0)).map fun v => [v]).set j ([Value.slice none 0 0].set 0 (.slice Ab (D.olds j).length cb)) = (((os1 ++ [Value.slice Ab (D.olds j).length cb]) ++ List.replicate (n - (j + 1)) (Value.slice none 0 0)).map fun v => [v]) := by
          rw [List.set_cons_zero, show [Value.slice Ab (D.olds j).length cb] = (fun v : Value => [v]) (Value.slice Ab (D.olds j).length cb) from rfl, ← List.map_set]
          congr 1
          rw [List.set_append_right _ _ (by rw [HOS.out]; omega), HOS.out, Nat.sub_self, show n - j = (n - (j + 1)) + 1 by omega, List.replicate_succ, List.set_cons_zero, List.append_assoc]
          rfl
        rw [he] at hs
        have HS := Lib.hid hs
        have HC0 := Lib.hid c0
        have HGB := Lib.hid hgb
        have HOB := Lib.hid hob
        have hlb0 := HOR.out.own_ge (g := g3) rfl
        have hgb3 : g3 < wb.heap.size := Nat.lt_of_lt_of_le hlb0.2 hgb.size
        clear hs he hrow hob3 hgb hob hlb0 hor
        refine wpAnyR_n1 (i := 14) rfl (by kernel_rfl) ?_
        intro K' hK
        rw [if_pos (by rfl)]
        simp only [List.getElem_toArray, List.getElem_cons_succ, List.getElem_cons_zero]
        go_wp2_with fail
        have htb := (Turned.refl (fun k => k = g3) wb).setCell (p := ⟨g3, j, none⟩) (fun _ => rfl) (.slice Ab (D.olds j).length cb)
        have hwz : wr.heap.size ≤ wb.heap.size := HGB.out.size
        refine hK.out _ _ (.inr (fun h => ⟨(((HXR.out.drew.grew HGB.out)).turned htb hxg).cell 1, ((HDR.out.drew.grew HGB.out).turned htb hqg).cell 1, (htb.cellEq _ _ (by omega) hgg).trans h.2.2⟩)) ?_
        clear hK hS
        refine wpAnyR_done (by kernel_rfl) ?_ _
        have HTB := Lib.hid htb
        clear htb c0 f0
        go_wp2_with fail
        go_roundg (n - (j + 1))
        case measure => rw [HGK.out]; omega
        case rel =>
          refine ⟨j + 1, _, by omega, by omega, by go_num, by rw [List.length_append, HOS.out]; rfl, HS.out, fun i v l hv hl => ?_, (HTR.out.drew.andGrew HGB.out).setCell (p := ⟨g3, j, none⟩) (fun _ => rfl) _⟩
          rcases Nat.lt_or_ge i j with hi | hi
          · rw [List.getElem?_append_left (by rw [HOS.out]; exact hi)] at hv
            have h9 := (HEA.out i v l hv hl).drew.grew HGB.out
            exact h9.kept HTB.out (fun g hg e => by have := (h9.own_ge hg).1; omega)
          · rw [List.getElem?_append_right (by rw [HOS.out]; exact hi), HOS.out] at hv
            have hij : i = j := by
              rcases Nat.lt_or_ge (i - j) 1 with h9 | h9
              · omega
              · rw [List.getElem?_eq_none (by simpa using h9)] at hv; cases hv
            subst hij
            rw [Nat.sub_self] at hv
            injection hv with hv
            subst hv
            rw [HOLD.out] at hl
            injection hl with hl
            subst hl
            have h9 := HOB.out.lower (b' := w3.heap.size) hzr
            exact h9.kept HTB.out (fun g hg e => by have := (h9.own_ge hg).1; omega)
      · rename World => wr1
        obtain rfl : j = n := by omega
        have HOR' := Lib.hid (show OwnL wr1 w.heap.size 27 1 (.slice (some ⟨g3, 0, none⟩) j c3) (os1.map fun v => [v]) from by
          have h9 := HOR.out
          rw [Nat.sub_self, List.replicate_zero, List.append_nil] at h9
          exact h9)
        have z1 := hdr.cell 1
        have z3 := hdr.cell 3
        have zl := hdr.lt
        have HDR := Lib.hid hdr
        have HMR := Lib.hid (HH.out.map.grew GWR.out)
        have hqm : q.m < w.heap.size := HH.out.map.lt
        have hm1 : m < w1.heap.size := H7.out.lt
        have HMW := Lib.hid (show MapI wr1 m (fun _ => none) from HM7.out.turned HTR.out (fun e => own_map_ne H4.out H7.out (by rw [e]; rfl)))
        clear hdr hor
        go_wp2_with (first | (at_range; refine wpList_range_is rfl (.tmp 70) 64 rfl 3 Try.underlying64 rfl HMR.out ?_; intro w0 cnt0 hit0 hg0 hs0) | fail)
        go_frame
        have HXA := Lib.hid (HXR.out.grew hg0)
        have HG0 := Lib.hid hg0
        have HMA := Lib.hid (HMW.out.grew hg0)
        clear hg0
        obtain ⟨rr, hrr⟩ : ∃ rr, rr = wr1.heap.size := ⟨_, rfl⟩
        rw [← hrr] at hit0 hs0 ⊢
        have HIT0 := Lib.hid hit0
        have hrl : wr1.heap.size ≤ rr := by omega
        have hrl2 : rr ≤ wr1.heap.size := by omega
        clear hit0 z1 z3 hrr
        go_loopg [] cnt0 (fun gk wq => ∃ S : Int → Bool, MapIt Try.prog 3 intV wq q.m rr q.E S gk ∧ MapI wq m (fun a => if S a then q.E a else none) ∧ Turned (fun k => k = m ∨ k = rr) w0 wq)
        case atStart => exact ⟨_, HIT0.out, HMA.out, Turned.refl _ _⟩
        case round =>
          obtain ⟨S, hit, hmq, htq⟩ := hrel
          have hxm : ¬ (w1.heap.size = m ∨ w1.heap.size = rr) := by
            rintro (h | h)
            · exact blk_map_ne HXA.out HMA.out h
            · omega
          have hqx : ¬ (q.x = m ∨ q.x = rr) := by omega
          have hxq := HXA.out.turned htq hxm
          have hx3 := hxq.cell 3
          have hxlt := hxq.lt
          have HIT := Lib.hid hit
          have HMQ := Lib.hid hmq
          have HTQ := Lib.hid htq
          have HXQ := Lib.hid hxq
          have hw0 : w0.heap.size ≤ wr.heap.size := htq.size
          clear hit hmq htq hxq
          go_wp2_with (first | (at_next; refine wpList_next_is rfl (.tmp 71) rfl rfl HIT.out (by omega) ?_ ?_) | fail)
          · intro hall
            have HMF := Lib.hid (show MapI wr m q.E from HMQ.out.congr (fun a => by
              cases hE : q.E a with
              | none => simp
              | some v => rw [if_pos (hall a v hE)]))
            have hwr1 : wr1.heap.size ≤ w0.heap.size := HG0.out.size
            have GWQ := Lib.hid (show Grew w wr from (GWR.out.trans HG0.out).turn HTQ.out (fun k hk => by have := GWR.out.size; omega))
            have hdq := HB.out.grew GWQ.out
            have z6 := hdq.cell 6
            have zl6 := hdq.lt
            have HCI := Lib.hid (clone_int Av cv q.svl.length q.svl wr rfl HH.out.svok.2 ((HVL.out.keep (Nat.le_refl _) GWQ.out).mono GWQ.out.size))
            clear hall hdq hx3 hxlt
            go_wp2_with fail
            refine HCI.out.mono ?_
            rintro er wc ⟨vc, rfl, hoc, hgc⟩
            obtain ⟨Ac, cc, rfl, hlc, hcc, _⟩ := hoc.listAt
            rw [List.length_map] at hoc hlc
            have hxc := HXQ.out.grew hgc
            have c0 := hxc.cell 0
            have c6 := hxc.cell 6
            have f6 := hxc.frozen 6
            have hxl2 := hxc.lt
            have HXC := Lib.hid hxc
            have HGC := Lib.hid hgc
            have HOC := Lib.hid hoc
            clear hxc hgc hoc z6 zl6
            go_wp2_with fail
            go_ret
            have hwr : wr.heap.size ≤ wc.heap.size := HGC.out.size
            have htx := (Turned.refl (fun k => k = w1.heap.size) wc).setCell (p := ⟨w1.heap.size, 6, none⟩) (fun _ => rfl) (.slice Ac q.svl.length cc)
            have htot : Turned (fun k => k = m ∨ k = rr ∨ k = w1.heap.size) wr1 (wc.setCell ⟨w1.heap.size, 6, none⟩ (.slice Ac q.svl.length cc)) := ((HG0.out.turned _).trans (HTQ.out.mono (fun k _ hk => hk.elim .inl (fun h => .inr (.inl h))))).trans ((HGC.out.turned _).trans (htx.mono (fun k _ hk => .inr (.inr hk))))
            have hkeep : ∀ (base e sz : Nat) (v : Value) (rows : List (List Value)), e ≠ 69 → OwnL wr1 base e sz v rows → OwnL (wc.setCell ⟨w1.heap.size, 6, none⟩ (.slice Ac q.svl.length cc)) base e sz v rows := fun base e sz v rows he ho => ho.kept htot (fun g hg h => by
              rcases h with h | h | h
              · exact own_map_ne ho HMW.out (by rw [hg, h])
              · have := (ho.own_ge hg).2; omega
              · exact ho.ne_blk HXR.out he (by rw [hg, h]))
            have hst : OwnL wr1 w.heap.size 9 1 (.slice (some ⟨g1, 0, none⟩) j c1) (D.st.map strC) := HO3.out.kept HTR.out (fun g hg e => hne13 (by injection hg with hg; exact e.symm.trans hg.symm))
            have hpe : OwnL wr1 w.heap.size 77 3 (.slice A8 D.pend.length c8) (D.pend.map wrC) := HO8.out.kept HTR.out (fun g hg e => own_own_ne H4.out H8.out (by decide) g3 rfl (by rw [← e]; exact hg))
            refine ⟨⟨w1.heap.size, m, .slice (some ⟨g1, 0, none⟩) j c1, .slice (some ⟨g3, 0, none⟩) j c3, .slice A8 D.pend.length c8, .slice Ac q.svl.length cc, os1, q.set, q.left, q.svl, q.E⟩, rfl, ⟨?_, ?_, ?_, ?_, ?_, ?_, ?_, ?_, ?_, HH.out.fuse, HH.out.left, HH.out.svok, HH.out.ok⟩, ?_, ?_⟩
            · exact (HXC.out.set_ 6 _).conv rfl
            · exact (hkeep _ _ _ _ _ (by decide) hst).base0
            · exact (hkeep _ _ _ _ _ (by decide) HOR'.out).base0
            · rw [HOS.out, HH.out.ok.len, HN.out]
            · intro i v l hv hl
              have h9 := HEA.out i v l hv hl
              refine ⟨(hkeep _ _ _ _ _ (by decide) h9).base0, fun g hg e => ?_⟩
              have := (h9.own_ge hg).1
              injection e with e
              have e9 : g1 = g := e
              omega
            · exact (hkeep _ _ _ _ _ (by decide) hpe).base0
            · exact (HOC.out.base0).kept htx (fun g hg e => HOC.out.ne_blk HXC.out (by decide) (by rw [hg, e]))
            · exact (HMF.out.grew HGC.out).turned htx (fun e => blk_map_ne HXC.out (HMF.out.grew HGC.out) e.symm)
            · exact HH.out.fen
            · exact ((GWQ.out.trans HGC.out)).turn htx (fun k hk => by omega)
            · intro k hk
              rcases hk with hk | hk | hk | hk | hk | hk | ⟨v, hv, hk⟩
              · rw [hk]; exact (show w.heap.size ≤ w1.heap.size by omega)
              · rw [hk]; exact h6
              · injection hk with hk; subst hk; exact hb1
              · injection hk with hk; subst hk; exact hb3
              · exact (HO8.out.own_ge hk).1
              · have := (HOC.out.own_ge hk).1; have := GWQ.out.size; omega
              · obtain ⟨i, hi, rfl⟩ := List.mem_iff_getElem.1 hv
                have hi' : i < D.old.length := by rw [HH.out.ok.len, HN.out, ← HOS.out]; exact hi
                have := ((HEA.out i _ _ (List.getElem?_eq_getElem hi) (List.getElem?_eq_getElem hi')).own_ge hk).1
                have := GW3.out.size
                omega
          · intro k v wn cnt' kl hkl hF hSk hitn hlt htn hen
            have hmn := HMQ.out.turned htn (by omega)
            obtain ⟨wu, hrun, hmu, htu⟩ := hmn.update int_keyedI intV_inj Try.underlying64 k hkl v
            have hxn := HXQ.out.turned htn (by omega)
            have n3 := hxn.cell 3
            have nl := hxn.lt
            have HITN := Lib.hid hitn
            have HMU := Lib.hid hmu
            have HTU := Lib.hid htu
            have HTN := Lib.hid htn
            have HK := Lib.hid (And.intro hF hSk)
            have HLT := Lib.hid hlt
            clear hitn hmu htu htn hmn hxn hF hSk hlt hx3
            go_wp2_with fail
            go_roundg cnt'
            case measure => exact HLT.out
            case rel =>
              refine ⟨_, HITN.out.turned HTU.out (by omega) (by omega), HMU.out.congr (fun a => ?_), HTQ.out.trans ((HTN.out.mono (fun k _ hk => .inr hk)).trans (HTU.out.mono (fun k _ hk => .inl hk)))⟩
              by_cases ha : a = k
              · subst ha
                rw [upd_same, upd_same, if_pos rfl, HK.out.1]
              · rw [upd_other _ _ ha, upd_other _ _ ha]
end Go.Proofs.Ytklojcgbokmkhaa
