/- forget, for each of the four predicates. -/
import Derived.Test.YtfmhiocigoejjaaBufC
import Derived.Test.YtfmhiocigoejjaaOrd
namespace Go.Proofs.Ytfmhiocigoejjaa
set_option linter.unusedVariables false
set_option linter.unusedSimpArgs false
set_option linter.unusedSectionVars false
open Go.RowKit
open Go.Maps (Keyed)
attribute [local go_sem ↓] Go.wp_at_zero Go.wp_at_succ
theorem Grew.keepT {a b : World} (h : Grew a b) (S : Nat → Prop) : Turned S a b := h.turned S
set_option maxRecDepth 100000 in
/-- One call of the closure that forget makes. -/
theorem calls_use (x m bw b0 g n gc base : Nat) (p1 : Value) (cap h ms : Int) (L : List Pg) (q : Place → Bool) (InvC : World → Prop) (hgm : ¬ g = m) (nd : (keys L).Nodup) (ok : ∀ p ∈ keys L, okPlace p)
    (hCs : ∀ W W', InvC W → Turned (fun k => k = m ∨ k = g) W W' → InvC W')
    (hCall : ∀ j (hj : j < (keys L).length) W F, InvC W → Blk W x 61 #[.int .i64 cap, .map (some m), .slice (some ⟨g, 0, none⟩) n gc, .int .i64 h, .int .i64 ms] → MapP W m F → F (keys L)[j] = FOf L (keys L)[j] →
      Calls Try.prog 34 #[.agg #[.int .i64 (keys L)[j].1, .int .i64 (keys L)[j].2], p1] W fun e w' => e = .returned (.bool (q (keys L)[j])) ∧ Grew W w') :
    ∀ j W (hj : j < (keys L).length), (Blk W bw 68 #[.func (.func 34) #[] #[p1]] ∧ Blk W b0 23 #[.pointer (some ⟨x, 0, none⟩)] ∧ Blk W x 61 #[.int .i64 cap, .map (some m), .slice (some ⟨g, 0, none⟩) n gc, .int .i64 h, .int .i64 ms] ∧ MapP W m (FTo L q j) ∧ InvC W) →
      Calls Try.prog 36 #[.agg #[.int .i64 (keys L)[j].1, .int .i64 (keys L)[j].2], .pointer (some ⟨bw, 0, none⟩), .pointer (some ⟨b0, 0, none⟩)] W fun e w' => e = .returned (.bool (q (keys L)[j])) ∧
        (Blk w' bw 68 #[.func (.func 34) #[] #[p1]] ∧ Blk w' b0 23 #[.pointer (some ⟨x, 0, none⟩)] ∧ Blk w' x 61 #[.int .i64 cap, .map (some m), .slice (some ⟨g, 0, none⟩) n gc, .int .i64 h, .int .i64 ms] ∧ MapP w' m (FTo L q (j + 1)) ∧ InvC w') ∧ Turned (fun k => k = m) W w' := by
  rintro j W hj ⟨i1, i2, i3, i4, i5⟩
  refine (forget1_use _ _ bw b0 x m p1 _ _ _ _ (FTo L q j) (q (keys L)[j]) W i1 i2 i3 i4 (ok _ (List.getElem_mem hj)) (fun W' hg => hCall j hj W' (FTo L q j) (hCs _ _ i5 (hg.turned _)) (i3.grew hg) (i4.grew hg) (FTo_at L q nd j hj))).mono ?_
  rintro e w' ⟨rfl, hm, ht⟩
  exact ⟨rfl, ⟨i1.turned ht (blk_map_ne i1 i4), i2.turned ht (blk_map_ne i2 i4), i3.turned ht (blk_map_ne i3 i4), hm.congr (fun p => (FTo_succ L q j hj p).symm), hCs _ _ i5 (ht.mono (fun _ _ h => .inl h))⟩, ht⟩
/-- One call of the closure that forget makes. -/
theorem calls_put (x m bw b0 g n gc base : Nat) (p1 : Value) (cap h ms : Int) (L : List Pg) (q : Place → Bool) (InvC : World → Prop) (hgm : ¬ g = m) (nd : (keys L).Nodup) (ok : ∀ p ∈ keys L, okPlace p)
    (hCs : ∀ W W', InvC W → Turned (fun k => k = m ∨ k = g) W W' → InvC W')
    (hCall : ∀ j (hj : j < (keys L).length) W F, InvC W → Blk W x 61 #[.int .i64 cap, .map (some m), .slice (some ⟨g, 0, none⟩) n gc, .int .i64 h, .int .i64 ms] → MapP W m F → F (keys L)[j] = FOf L (keys L)[j] →
      Calls Try.prog 33 #[.agg #[.int .i64 (keys L)[j].1, .int .i64 (keys L)[j].2], p1] W fun e w' => e = .returned (.bool (q (keys L)[j])) ∧ Grew W w') :
    ∀ j W (hj : j < (keys L).length), (Blk W bw 68 #[.func (.func 33) #[] #[p1]] ∧ Blk W b0 23 #[.pointer (some ⟨x, 0, none⟩)] ∧ Blk W x 61 #[.int .i64 cap, .map (some m), .slice (some ⟨g, 0, none⟩) n gc, .int .i64 h, .int .i64 ms] ∧ MapP W m (FTo L q j) ∧ InvC W) →
      Calls Try.prog 36 #[.agg #[.int .i64 (keys L)[j].1, .int .i64 (keys L)[j].2], .pointer (some ⟨bw, 0, none⟩), .pointer (some ⟨b0, 0, none⟩)] W fun e w' => e = .returned (.bool (q (keys L)[j])) ∧
        (Blk w' bw 68 #[.func (.func 33) #[] #[p1]] ∧ Blk w' b0 23 #[.pointer (some ⟨x, 0, none⟩)] ∧ Blk w' x 61 #[.int .i64 cap, .map (some m), .slice (some ⟨g, 0, none⟩) n gc, .int .i64 h, .int .i64 ms] ∧ MapP w' m (FTo L q (j + 1)) ∧ InvC w') ∧ Turned (fun k => k = m) W w' := by
  rintro j W hj ⟨i1, i2, i3, i4, i5⟩
  refine (forget1_put _ _ bw b0 x m p1 _ _ _ _ (FTo L q j) (q (keys L)[j]) W i1 i2 i3 i4 (ok _ (List.getElem_mem hj)) (fun W' hg => hCall j hj W' (FTo L q j) (hCs _ _ i5 (hg.turned _)) (i3.grew hg) (i4.grew hg) (FTo_at L q nd j hj))).mono ?_
  rintro e w' ⟨rfl, hm, ht⟩
  exact ⟨rfl, ⟨i1.turned ht (blk_map_ne i1 i4), i2.turned ht (blk_map_ne i2 i4), i3.turned ht (blk_map_ne i3 i4), hm.congr (fun p => (FTo_succ L q j hj p).symm), hCs _ _ i5 (ht.mono (fun _ _ h => .inl h))⟩, ht⟩
/-- One call of the closure that forget makes. -/
theorem calls_drop (x m bw b0 g n gc base : Nat) (p1 : Value) (cap h ms : Int) (L : List Pg) (q : Place → Bool) (InvC : World → Prop) (hgm : ¬ g = m) (nd : (keys L).Nodup) (ok : ∀ p ∈ keys L, okPlace p)
    (hCs : ∀ W W', InvC W → Turned (fun k => k = m ∨ k = g) W W' → InvC W')
    (hCall : ∀ j (hj : j < (keys L).length) W F, InvC W → Blk W x 61 #[.int .i64 cap, .map (some m), .slice (some ⟨g, 0, none⟩) n gc, .int .i64 h, .int .i64 ms] → MapP W m F → F (keys L)[j] = FOf L (keys L)[j] →
      Calls Try.prog 28 #[.agg #[.int .i64 (keys L)[j].1, .int .i64 (keys L)[j].2], p1] W fun e w' => e = .returned (.bool (q (keys L)[j])) ∧ Grew W w') :
    ∀ j W (hj : j < (keys L).length), (Blk W bw 68 #[.func (.func 28) #[] #[p1]] ∧ Blk W b0 23 #[.pointer (some ⟨x, 0, none⟩)] ∧ Blk W x 61 #[.int .i64 cap, .map (some m), .slice (some ⟨g, 0, none⟩) n gc, .int .i64 h, .int .i64 ms] ∧ MapP W m (FTo L q j) ∧ InvC W) →
      Calls Try.prog 36 #[.agg #[.int .i64 (keys L)[j].1, .int .i64 (keys L)[j].2], .pointer (some ⟨bw, 0, none⟩), .pointer (some ⟨b0, 0, none⟩)] W fun e w' => e = .returned (.bool (q (keys L)[j])) ∧
        (Blk w' bw 68 #[.func (.func 28) #[] #[p1]] ∧ Blk w' b0 23 #[.pointer (some ⟨x, 0, none⟩)] ∧ Blk w' x 61 #[.int .i64 cap, .map (some m), .slice (some ⟨g, 0, none⟩) n gc, .int .i64 h, .int .i64 ms] ∧ MapP w' m (FTo L q (j + 1)) ∧ InvC w') ∧ Turned (fun k => k = m) W w' := by
  rintro j W hj ⟨i1, i2, i3, i4, i5⟩
  refine (forget1_drop _ _ bw b0 x m p1 _ _ _ _ (FTo L q j) (q (keys L)[j]) W i1 i2 i3 i4 (ok _ (List.getElem_mem hj)) (fun W' hg => hCall j hj W' (FTo L q j) (hCs _ _ i5 (hg.turned _)) (i3.grew hg) (i4.grew hg) (FTo_at L q nd j hj))).mono ?_
  rintro e w' ⟨rfl, hm, ht⟩
  exact ⟨rfl, ⟨i1.turned ht (blk_map_ne i1 i4), i2.turned ht (blk_map_ne i2 i4), i3.turned ht (blk_map_ne i3 i4), hm.congr (fun p => (FTo_succ L q j hj p).symm), hCs _ _ i5 (ht.mono (fun _ _ h => .inl h))⟩, ht⟩
/-- One call of the closure that forget makes. -/
theorem calls_inv (x m bw b0 g n gc base : Nat) (p1 p2 p3 : Value) (cap h ms : Int) (L : List Pg) (q : Place → Bool) (InvC : World → Prop) (hgm : ¬ g = m) (nd : (keys L).Nodup) (ok : ∀ p ∈ keys L, okPlace p)
    (hCs : ∀ W W', InvC W → Turned (fun k => k = m ∨ k = g) W W' → InvC W')
    (hCall : ∀ j (hj : j < (keys L).length) W F, InvC W → Blk W x 61 #[.int .i64 cap, .map (some m), .slice (some ⟨g, 0, none⟩) n gc, .int .i64 h, .int .i64 ms] → MapP W m F → F (keys L)[j] = FOf L (keys L)[j] →
      Calls Try.prog 27 #[.agg #[.int .i64 (keys L)[j].1, .int .i64 (keys L)[j].2], p1, p2, p3] W fun e w' => e = .returned (.bool (q (keys L)[j])) ∧ Grew W w') :
    ∀ j W (hj : j < (keys L).length), (Blk W bw 68 #[.func (.func 27) #[] #[p1, p2, p3]] ∧ Blk W b0 23 #[.pointer (some ⟨x, 0, none⟩)] ∧ Blk W x 61 #[.int .i64 cap, .map (some m), .slice (some ⟨g, 0, none⟩) n gc, .int .i64 h, .int .i64 ms] ∧ MapP W m (FTo L q j) ∧ InvC W) →
      Calls Try.prog 36 #[.agg #[.int .i64 (keys L)[j].1, .int .i64 (keys L)[j].2], .pointer (some ⟨bw, 0, none⟩), .pointer (some ⟨b0, 0, none⟩)] W fun e w' => e = .returned (.bool (q (keys L)[j])) ∧
        (Blk w' bw 68 #[.func (.func 27) #[] #[p1, p2, p3]] ∧ Blk w' b0 23 #[.pointer (some ⟨x, 0, none⟩)] ∧ Blk w' x 61 #[.int .i64 cap, .map (some m), .slice (some ⟨g, 0, none⟩) n gc, .int .i64 h, .int .i64 ms] ∧ MapP w' m (FTo L q (j + 1)) ∧ InvC w') ∧ Turned (fun k => k = m) W w' := by
  rintro j W hj ⟨i1, i2, i3, i4, i5⟩
  refine (forget1_inv _ _ bw b0 x m p1 p2 p3 _ _ _ _ (FTo L q j) (q (keys L)[j]) W i1 i2 i3 i4 (ok _ (List.getElem_mem hj)) (fun W' hg => hCall j hj W' (FTo L q j) (hCs _ _ i5 (hg.turned _)) (i3.grew hg) (i4.grew hg) (FTo_at L q nd j hj))).mono ?_
  rintro e w' ⟨rfl, hm, ht⟩
  exact ⟨rfl, ⟨i1.turned ht (blk_map_ne i1 i4), i2.turned ht (blk_map_ne i2 i4), i3.turned ht (blk_map_ne i3 i4), hm.congr (fun p => (FTo_succ L q j hj p).symm), hCs _ _ i5 (ht.mono (fun _ _ h => .inl h))⟩, ht⟩
set_option maxRecDepth 100000 in
set_option maxHeartbeats 4000000 in
theorem forget_core (x fid : Nat) (caps : Array Value) (A : Option Addr) (c n n' : Nat) (c0 c1 c3 c4 : Value) (w : World) (hx : Blk w x 61 #[c0, c1, .slice A n c, c3, c4]) (hn : n ≤ 100000) (hn' : n' ≤ n) (Rel : World → Option Addr → Nat → Prop)
    (hdel : Calls Try.prog 35 #[.slice A n c, .func (.func 36) #[] #[.pointer (some ⟨w.heap.size + 1, 0, none⟩), .pointer (some ⟨w.heap.size, 0, none⟩)]] (((w.alloc (.cells #[.pointer (some ⟨x, 0, none⟩)] 23)).alloc (.cells #[.func (.func fid) #[] caps] 68)).drew)
      fun e w3 => ∃ A' c', e = .returned (.slice A' n' c') ∧ Rel w3 A' c' ∧ Blk w3 w.heap.size 23 #[.pointer (some ⟨x, 0, none⟩)] ∧ Blk w3 x 61 #[c0, c1, .slice A n c, c3, c4]) :
    Calls Try.prog 26 #[.pointer (some ⟨x, 0, none⟩), .func (.func fid) #[] caps] w fun e w' => e = .returned (.int .i64 ((n : Int) - (n' : Int))) ∧ ∃ w3 A' c', Rel w3 A' c' ∧ w' = w3.setCell ⟨x, 2, none⟩ (.slice A' n' c') := by
  have HDEL := Lib.hid hdel
  clear hdel
  have hxl := hx.lt
  have hb0 : Blk (((w.alloc (.cells #[.pointer (some ⟨x, 0, none⟩)] 23)).alloc (.cells #[.func (.func fid) #[] caps] 68)).drew) w.heap.size 23 #[.pointer (some ⟨x, 0, none⟩)] := ((Blk.new w _ _ rfl).alloc _).drew
  have hx0 : Blk (((w.alloc (.cells #[.pointer (some ⟨x, 0, none⟩)] 23)).alloc (.cells #[.func (.func fid) #[] caps] 68)).drew) x 61 #[c0, c1, .slice A n c, c3, c4] := ((hx.alloc _).alloc _).drew
  have x2 := hx.cell 2
  have hS : (fun w' : World => w'.cell? ⟨w.heap.size, 0, none⟩ = some (.pointer (some ⟨x, 0, none⟩)) ∧ w'.cell? ⟨x, 2, none⟩ = some (.slice A n c) ∧ w'.cell? ⟨x, 0, none⟩ = some c0) (((w.alloc (.cells #[.pointer (some ⟨x, 0, none⟩)] 23)).alloc (.cells #[.func (.func fid) #[] caps] 68)).drew) := ⟨hb0.cell 0, hx0.cell 2, hx0.cell 0⟩
  go_enter Try.func26, Try.ntmps26
  go_wp2_with fail
  refine wp_region_G [9] (fun w' : World => w'.cell? ⟨w.heap.size, 0, none⟩ = some (.pointer (some ⟨x, 0, none⟩)) ∧ w'.cell? ⟨x, 2, none⟩ = some (.slice A n c) ∧ w'.cell? ⟨x, 0, none⟩ = some c0) (by kernel_rfl) ?_
  refine wpAnyG_take (i := 0) (v := ?_) [7, 8, 9] (some 11) rfl rfl (by kernel_rfl) (by kernel_rfl) (by kernel_rfl) (by kernel_rfl) (by kernel_rfl) (by kernel_rfl) (by kernel_rfl) (fun _ _ _ h => h) (Or.inl ⟨by rfl, ?_⟩) hS ?_
  rotate_left
  focus (intro wS hSw; (try dsimp only at hSw); go_simp; (try with_reducible rfl))
  try simp only [Act.put, List.setIfInBounds_toArray, List.set_cons_zero, List.set_cons_succ]
  refine wpAnyG_take (i := 1) (v := ?_) [2, 3, 4, 6, 9] (some 12) rfl rfl (by kernel_rfl) (by kernel_rfl) (by kernel_rfl) (by kernel_rfl) (by kernel_rfl) (by kernel_rfl) (by kernel_rfl) (fun _ _ _ h => h) (Or.inl ⟨by rfl, ?_⟩) hS ?_
  rotate_left
  focus (intro wS hSw; (try dsimp only at hSw); go_simp; (try with_reducible rfl))
  try simp only [Act.put, List.setIfInBounds_toArray, List.set_cons_zero, List.set_cons_succ]
  refine wpAnyG_take (i := 2) (v := ?_) [3, 4, 6, 9] (some 13) rfl rfl (by kernel_rfl) (by kernel_rfl) (by kernel_rfl) (by kernel_rfl) (by kernel_rfl) (by kernel_rfl) (by kernel_rfl) (fun _ _ _ h => h) (Or.inl ⟨by rfl, ?_⟩) hS ?_
  rotate_left
  focus (intro wS hSw; (try dsimp only at hSw); go_simp; (try with_reducible rfl))
  try simp only [Act.put, List.setIfInBounds_toArray, List.set_cons_zero, List.set_cons_succ]
  refine wpAnyG_take (i := 3) (v := ?_) [4, 6, 9] (some 14) rfl rfl (by kernel_rfl) (by kernel_rfl) (by kernel_rfl) (by kernel_rfl) (by kernel_rfl) (by kernel_rfl) (by kernel_rfl) (fun _ _ _ h => h) (Or.inl ⟨by rfl, ?_⟩) hS ?_
  rotate_left
  focus (intro wS hSw; (try dsimp only at hSw); go_simp; (try with_reducible rfl))
  try simp only [Act.put, List.setIfInBounds_toArray, List.set_cons_zero, List.set_cons_succ]
  refine wpAnyG_take (i := 4) (v := ?_) [6, 9] (some 15) rfl rfl (by kernel_rfl) (by kernel_rfl) (by kernel_rfl) (by kernel_rfl) (by kernel_rfl) (by kernel_rfl) (by kernel_rfl) (fun _ _ _ h => h) (Or.inl ⟨by rfl, ?_⟩) hS ?_
  rotate_left
  focus (intro wS hSw; (try dsimp only at hSw); go_simp; (try with_reducible rfl))
  try simp only [Act.put, List.setIfInBounds_toArray, List.set_cons_zero, List.set_cons_succ]
  refine wpAnyG_take (i := 5) (v := ?_) [6, 9] (some 16) rfl rfl (by kernel_rfl) (by kernel_rfl) (by kernel_rfl) (by kernel_rfl) (by kernel_rfl) (by kernel_rfl) (by kernel_rfl) (fun _ _ _ h => h) (Or.inl ⟨by rfl, ?_⟩) hS ?_
  rotate_left
  focus (intro wS hSw; (try dsimp only at hSw); go_simp; (try with_reducible rfl))
  try simp only [Act.put, List.setIfInBounds_toArray, List.set_cons_zero, List.set_cons_succ]
  refine wpAnyG_one (i := 6) rfl (by kernel_rfl) ?_
  intro K' hK
  rw [if_pos (by rfl)]
  simp only [List.getElem_toArray, List.getElem_cons_succ, List.getElem_cons_zero]
  go_wp2_with fail
  refine HDEL.out.mono ?_
  rintro e w3 ⟨A', c', rfl, hrel, hb3, hx3⟩
  have HREL := Lib.hid hrel
  have h03 := hb3.lt
  have h13 := hx3.lt
  have z0 := hb3.cell 0
  have z2 := hx3.cell 2
  have z3 := hx3.cell 0
  have zf := hx3.frozen 2
  clear hrel
  go_wp2_with fail
  refine hK.out _ _ (.inr ⟨z0, z2, z3⟩) ?_
  clear hK hS
  have hS : (fun w' : World => w'.cell? ⟨w.heap.size, 0, none⟩ = some (.pointer (some ⟨x, 0, none⟩)) ∧ w'.cell? ⟨x, 2, none⟩ = some (.slice A n c) ∧ w'.cell? ⟨x, 0, none⟩ = some c0) w3 := ⟨z0, z2, z3⟩
  refine wpAnyG_take (i := 7) (v := ?_) [8, 9] (some 18) rfl rfl (by kernel_rfl) (by kernel_rfl) (by kernel_rfl) (by kernel_rfl) (by kernel_rfl) (by kernel_rfl) (by kernel_rfl) (fun _ _ _ h => h) (Or.inl ⟨by rfl, ?_⟩) hS ?_
  rotate_left
  focus (intro wS hSw; (try dsimp only at hSw); go_simp; (try with_reducible rfl))
  try simp only [Act.put, List.setIfInBounds_toArray, List.set_cons_zero, List.set_cons_succ]
  refine wpAnyG_take (i := 8) (v := ?_) [9] (some 19) rfl rfl (by kernel_rfl) (by kernel_rfl) (by kernel_rfl) (by kernel_rfl) (by kernel_rfl) (by kernel_rfl) (by kernel_rfl) (fun _ _ _ h => h) (Or.inl ⟨by rfl, ?_⟩) hS ?_
  rotate_left
  focus (intro wS hSw; (try dsimp only at hSw); go_simp; (try with_reducible rfl))
  try simp only [Act.put, List.setIfInBounds_toArray, List.set_cons_zero, List.set_cons_succ]
  refine wpAnyG_one (i := 9) rfl (by kernel_rfl) ?_
  intro K' hK
  rw [if_pos (by rfl)]
  simp only [List.getElem_toArray, List.getElem_cons_succ, List.getElem_cons_zero]
  go_wp2_with fail
  refine hK.out _ _ (.inl rfl) ?_
  refine wpAnyG_done (by kernel_rfl) ?_ _
  have hxb : ¬ x = w.heap.size := by omega
  have hxb' : ¬ w.heap.size = x := by omega
  have y0 := (hb3.far (p := ⟨x, 2, none⟩) hxb' (.slice A' n' c')).cell 0
  have y2 := (hx3.set_ 2 (.slice A' n' c')).cell 2
  have y3 := (hx3.set_ 2 (.slice A' n' c')).cell 0
  clear hK hS z0 z2 z3
  obtain ⟨w4, hw4⟩ : ∃ w4, w4 = w3.setCell ⟨x, 2, none⟩ (.slice A' n' c') := ⟨_, rfl⟩
  have HW4 := Lib.hid hw4
  rw [← hw4] at y0 y2 y3 ⊢
  clear hw4
  go_wp2_with fail
  go_ret
  exact ⟨rfl, w3, A', c', HREL.out, HW4.out⟩
theorem forget_use (x m : Nat) (v : Value) (p1 : Value) (cap h ms : Int) (L : List Pg) (base : Nat) (q : Place → Bool) (InvC : World → Prop) (w : World) (hp : PoolM w base x m v cap L h ms) (hsmall : L.length ≤ 100000) (hC : InvC w)
    (hCs : ∀ W W', InvC W → Turned (fun k => k = m ∨ v.ownBlock = some k) W W' → InvC W')
    (hCall : ∀ j (hj : j < (keys L).length) W F, InvC W → Blk W x 61 #[.int .i64 cap, .map (some m), v, .int .i64 h, .int .i64 ms] → MapP W m F → F (keys L)[j] = FOf L (keys L)[j] →
      Calls Try.prog 34 #[.agg #[.int .i64 (keys L)[j].1, .int .i64 (keys L)[j].2], p1] W fun e w' => e = .returned (.bool (q (keys L)[j])) ∧ Grew W w') :
    Calls Try.prog 26 #[.pointer (some ⟨x, 0, none⟩), .func (.func 34) #[] #[p1]] w fun e w' => ∃ v', e = .returned (.int .i64 ((L.length : Int) - ((L.filter fun p => !q p.1).length : Int))) ∧ PoolM w' base x m v' cap (L.filter fun p => !q p.1) h ms ∧ v'.ownBlock = v.ownBlock ∧ Turned (fun k => k = x ∨ k = m ∨ v.ownBlock = some k) w w' := by
  have hxl := hp.blk.lt
  have hml := hp.map.lt
  have hfl := List.length_filter_le (fun p : Pg => !q p.1) L
  have HKF : ((keys L).filter fun p => !q p).length = (L.filter fun p => !q p.1).length := by rw [← keys_filter, keys_len]
  have hndf : (keys (L.filter fun p => !q p.1)).Nodup := by rw [keys_filter]; exact hp.nd.filter _
  have hokf : ∀ p ∈ keys (L.filter fun p => !q p.1), okPlace p := fun p h => by rw [keys_filter] at h; exact hp.ok p (List.mem_filter.1 h).1
  have hbx := ((Blk.new w 23 #[.pointer (some ⟨x, 0, none⟩)] rfl).alloc (.cells #[.func (.func 34) #[] #[p1]] 68)).drew
  have hbf := (Blk.new (w.alloc (.cells #[.pointer (some ⟨x, 0, none⟩)] 23)) 68 #[.func (.func 34) #[] #[p1]] (n := w.heap.size + 1) (by simp)).drew
  have hpx := ((hp.blk.alloc (.cells #[.pointer (some ⟨x, 0, none⟩)] 23)).alloc (.cells #[.func (.func 34) #[] #[p1]] 68)).drew
  have hpm := ((hp.map.alloc (.cells #[.pointer (some ⟨x, 0, none⟩)] 23)).alloc (.cells #[.func (.func 34) #[] #[p1]] 68)).drew
  have hpo := ((hp.own.alloc (.cells #[.pointer (some ⟨x, 0, none⟩)] 23)).alloc (.cells #[.func (.func 34) #[] #[p1]] 68)).drew
  have htt := fun S => ((((Turned.refl S w).alloc (.cells #[.pointer (some ⟨x, 0, none⟩)] 23)).alloc (.cells #[.func (.func 34) #[] #[p1]] 68)).drew)
  have hxm : ¬ x = m := blk_map_ne hp.blk hp.map
  rcases hp.own.form with ⟨hv, h0⟩ | ⟨g, gc, hv, hbg, hgl, hgc, hgcm⟩
  · subst hv
    have hL : L = [] := by
      have := congrArg List.length h0
      rw [placeC_len, keys_len] at this
      exact List.length_eq_zero_iff.1 this
    subst hL
    refine (forget_core x 34 #[p1] none 0 0 0 _ _ _ _ w hp.blk (by omega) (by omega) (fun w3 A' c' => A' = none ∧ c' = 0 ∧ w3 = (((w.alloc (.cells #[.pointer (some ⟨x, 0, none⟩)] 23)).alloc (.cells #[.func (.func 34) #[] #[p1]] 68)).drew)) ?_).mono ?_
    · refine (deleteFunc_nil _ _).mono ?_
      rintro e w3 ⟨rfl, rfl⟩
      exact ⟨none, 0, rfl, ⟨rfl, rfl, rfl⟩, hbx, hpx⟩
    · rintro e w' ⟨rfl, w3, A', c', ⟨rfl, rfl, rfl⟩, rfl⟩
      exact ⟨.slice none 0 0, rfl, ⟨(hpx.set_ 2 (.slice none 0 0)).conv rfl, hpm.far (p := ⟨x, 2, none⟩) (fun e => hxm e.symm) _, OwnL.nil _ _ _ _, hp.bx, hp.bm, hp.nd, hp.ok⟩, rfl, (htt _).setCell (p := ⟨x, 2, none⟩) (fun _ => .inl rfl) _⟩
  · rw [placeC_len, keys_len] at hv hgc
    subst hv
    have hgm := own_map_ne hp.own hp.map
    have hgx := hp.own.ne_blk hp.blk (by decide)
    have hgm' : ¬ g = m := fun e => hgm (by rw [e]; rfl)
    have hgx' : ¬ x = g := fun e => hgx (by rw [e]; rfl)
    have HINVS := calls_use x m (w.heap.size + 1) w.heap.size g L.length gc base p1 cap h ms L q InvC hgm' hp.nd hp.ok (fun W W' h1 h2 => hCs W W' h1 (h2.mono (fun k _ hk => hk.imp id (fun e => by rw [e]; rfl)))) hCall
    refine (forget_core x 34 #[p1] (some ⟨g, 0, none⟩) gc L.length (L.filter fun p => !q p.1).length _ _ _ _ w hp.blk hsmall hfl (fun w3 A' c' => A' = some ⟨g, 0, none⟩ ∧ c' = gc ∧ OwnL w3 base 40 2 (.slice (some ⟨g, 0, none⟩) (L.filter fun p => !q p.1).length gc) ((keys (L.filter fun p => !q p.1)).map placeC) ∧ Blk w3 x 61 #[.int .i64 cap, .map (some m), .slice (some ⟨g, 0, none⟩) L.length gc, .int .i64 h, .int .i64 ms] ∧ MapP w3 m (FOf (L.filter fun p => !q p.1)) ∧ Turned (fun k => k = x ∨ k = m ∨ (Value.slice (some ⟨g, 0, none⟩) L.length gc).ownBlock = some k) w w3) ?_).mono ?_
    · refine (deleteFunc_any (w.heap.size + 1) w.heap.size q (keys L) g L.length gc base (fun k => k = m) (fun j W => Blk W (w.heap.size + 1) 68 #[.func (.func 34) #[] #[p1]] ∧ Blk W w.heap.size 23 #[.pointer (some ⟨x, 0, none⟩)] ∧ Blk W x 61 #[.int .i64 cap, .map (some m), .slice (some ⟨g, 0, none⟩) L.length gc, .int .i64 h, .int .i64 ms] ∧ MapP W m (FTo L q j) ∧ InvC W) (by rw [keys_len]) (by omega) hgm'
        (fun j W W' ⟨j1, j2, j3, j4, j5⟩ ht => ⟨j1.turned ht (by omega), j2.turned ht (by omega), j3.turned ht hgx', j4.turned ht (fun e => hgm' e.symm), hCs _ _ j5 (ht.mono (fun k _ e => .inr (by rw [e]; rfl)))⟩) (fun j W hj hi => HINVS j W hj hi) _ (by intro k hk; simp; omega) hpo ⟨hbf, hbx, hpx, hpm.congr (fun p => (FTo_zero L q p).symm), hCs _ _ hC (htt _)⟩).mono ?_
      rintro e w3 ⟨rfl, hown3, ⟨i1, i2, i3, i4, i5⟩, ht3⟩
      rw [HKF] at hown3
      rw [← keys_filter] at hown3
      exact ⟨some ⟨g, 0, none⟩, gc, by rw [HKF], ⟨rfl, rfl, hown3, i3, i4.congr (FTo_end L q), (htt _).next ht3 (fun k _ hk => hk.elim (fun e => .inr (.inl e)) (fun e => .inr (.inr (by rw [e]; rfl))))⟩, i2, i3⟩
    · rintro e w' ⟨rfl, w3, A', c', ⟨rfl, rfl, hown3, i3, i4, ht3⟩, rfl⟩
      exact ⟨_, rfl, ⟨(i3.set_ 2 _).conv rfl, i4.far (p := ⟨x, 2, none⟩) (fun e => hxm e.symm) _, hown3.far (p := ⟨x, 2, none⟩) (fun e => hgx' (by simp [Value.ownBlock] at e; omega)) _, hp.bx, hp.bm, hndf, hokf⟩, rfl, ht3.setCell (p := ⟨x, 2, none⟩) (fun _ => .inl rfl) _⟩
theorem forget_put (x m : Nat) (v : Value) (p1 : Value) (cap h ms : Int) (L : List Pg) (base : Nat) (q : Place → Bool) (InvC : World → Prop) (w : World) (hp : PoolM w base x m v cap L h ms) (hsmall : L.length ≤ 100000) (hC : InvC w)
    (hCs : ∀ W W', InvC W → Turned (fun k => k = m ∨ v.ownBlock = some k) W W' → InvC W')
    (hCall : ∀ j (hj : j < (keys L).length) W F, InvC W → Blk W x 61 #[.int .i64 cap, .map (some m), v, .int .i64 h, .int .i64 ms] → MapP W m F → F (keys L)[j] = FOf L (keys L)[j] →
      Calls Try.prog 33 #[.agg #[.int .i64 (keys L)[j].1, .int .i64 (keys L)[j].2], p1] W fun e w' => e = .returned (.bool (q (keys L)[j])) ∧ Grew W w') :
    Calls Try.prog 26 #[.pointer (some ⟨x, 0, none⟩), .func (.func 33) #[] #[p1]] w fun e w' => ∃ v', e = .returned (.int .i64 ((L.length : Int) - ((L.filter fun p => !q p.1).length : Int))) ∧ PoolM w' base x m v' cap (L.filter fun p => !q p.1) h ms ∧ v'.ownBlock = v.ownBlock ∧ Turned (fun k => k = x ∨ k = m ∨ v.ownBlock = some k) w w' := by
  have hxl := hp.blk.lt
  have hml := hp.map.lt
  have hfl := List.length_filter_le (fun p : Pg => !q p.1) L
  have HKF : ((keys L).filter fun p => !q p).length = (L.filter fun p => !q p.1).length := by rw [← keys_filter, keys_len]
  have hndf : (keys (L.filter fun p => !q p.1)).Nodup := by rw [keys_filter]; exact hp.nd.filter _
  have hokf : ∀ p ∈ keys (L.filter fun p => !q p.1), okPlace p := fun p h => by rw [keys_filter] at h; exact hp.ok p (List.mem_filter.1 h).1
  have hbx := ((Blk.new w 23 #[.pointer (some ⟨x, 0, none⟩)] rfl).alloc (.cells #[.func (.func 33) #[] #[p1]] 68)).drew
  have hbf := (Blk.new (w.alloc (.cells #[.pointer (some ⟨x, 0, none⟩)] 23)) 68 #[.func (.func 33) #[] #[p1]] (n := w.heap.size + 1) (by simp)).drew
  have hpx := ((hp.blk.alloc (.cells #[.pointer (some ⟨x, 0, none⟩)] 23)).alloc (.cells #[.func (.func 33) #[] #[p1]] 68)).drew
  have hpm := ((hp.map.alloc (.cells #[.pointer (some ⟨x, 0, none⟩)] 23)).alloc (.cells #[.func (.func 33) #[] #[p1]] 68)).drew
  have hpo := ((hp.own.alloc (.cells #[.pointer (some ⟨x, 0, none⟩)] 23)).alloc (.cells #[.func (.func 33) #[] #[p1]] 68)).drew
  have htt := fun S => ((((Turned.refl S w).alloc (.cells #[.pointer (some ⟨x, 0, none⟩)] 23)).alloc (.cells #[.func (.func 33) #[] #[p1]] 68)).drew)
  have hxm : ¬ x = m := blk_map_ne hp.blk hp.map
  rcases hp.own.form with ⟨hv, h0⟩ | ⟨g, gc, hv, hbg, hgl, hgc, hgcm⟩
  · subst hv
    have hL : L = [] := by
      have := congrArg List.length h0
      rw [placeC_len, keys_len] at this
      exact List.length_eq_zero_iff.1 this
    subst hL
    refine (forget_core x 33 #[p1] none 0 0 0 _ _ _ _ w hp.blk (by omega) (by omega) (fun w3 A' c' => A' = none ∧ c' = 0 ∧ w3 = (((w.alloc (.cells #[.pointer (some ⟨x, 0, none⟩)] 23)).alloc (.cells #[.func (.func 33) #[] #[p1]] 68)).drew)) ?_).mono ?_
    · refine (deleteFunc_nil _ _).mono ?_
      rintro e w3 ⟨rfl, rfl⟩
      exact ⟨none, 0, rfl, ⟨rfl, rfl, rfl⟩, hbx, hpx⟩
    · rintro e w' ⟨rfl, w3, A', c', ⟨rfl, rfl, rfl⟩, rfl⟩
      exact ⟨.slice none 0 0, rfl, ⟨(hpx.set_ 2 (.slice none 0 0)).conv rfl, hpm.far (p := ⟨x, 2, none⟩) (fun e => hxm e.symm) _, OwnL.nil _ _ _ _, hp.bx, hp.bm, hp.nd, hp.ok⟩, rfl, (htt _).setCell (p := ⟨x, 2, none⟩) (fun _ => .inl rfl) _⟩
  · rw [placeC_len, keys_len] at hv hgc
    subst hv
    have hgm := own_map_ne hp.own hp.map
    have hgx := hp.own.ne_blk hp.blk (by decide)
    have hgm' : ¬ g = m := fun e => hgm (by rw [e]; rfl)
    have hgx' : ¬ x = g := fun e => hgx (by rw [e]; rfl)
    have HINVS := calls_put x m (w.heap.size + 1) w.heap.size g L.length gc base p1 cap h ms L q InvC hgm' hp.nd hp.ok (fun W W' h1 h2 => hCs W W' h1 (h2.mono (fun k _ hk => hk.imp id (fun e => by rw [e]; rfl)))) hCall
    refine (forget_core x 33 #[p1] (some ⟨g, 0, none⟩) gc L.length (L.filter fun p => !q p.1).length _ _ _ _ w hp.blk hsmall hfl (fun w3 A' c' => A' = some ⟨g, 0, none⟩ ∧ c' = gc ∧ OwnL w3 base 40 2 (.slice (some ⟨g, 0, none⟩) (L.filter fun p => !q p.1).length gc) ((keys (L.filter fun p => !q p.1)).map placeC) ∧ Blk w3 x 61 #[.int .i64 cap, .map (some m), .slice (some ⟨g, 0, none⟩) L.length gc, .int .i64 h, .int .i64 ms] ∧ MapP w3 m (FOf (L.filter fun p => !q p.1)) ∧ Turned (fun k => k = x ∨ k = m ∨ (Value.slice (some ⟨g, 0, none⟩) L.length gc).ownBlock = some k) w w3) ?_).mono ?_
    · refine (deleteFunc_any (w.heap.size + 1) w.heap.size q (keys L) g L.length gc base (fun k => k = m) (fun j W => Blk W (w.heap.size + 1) 68 #[.func (.func 33) #[] #[p1]] ∧ Blk W w.heap.size 23 #[.pointer (some ⟨x, 0, none⟩)] ∧ Blk W x 61 #[.int .i64 cap, .map (some m), .slice (some ⟨g, 0, none⟩) L.length gc, .int .i64 h, .int .i64 ms] ∧ MapP W m (FTo L q j) ∧ InvC W) (by rw [keys_len]) (by omega) hgm'
        (fun j W W' ⟨j1, j2, j3, j4, j5⟩ ht => ⟨j1.turned ht (by omega), j2.turned ht (by omega), j3.turned ht hgx', j4.turned ht (fun e => hgm' e.symm), hCs _ _ j5 (ht.mono (fun k _ e => .inr (by rw [e]; rfl)))⟩) (fun j W hj hi => HINVS j W hj hi) _ (by intro k hk; simp; omega) hpo ⟨hbf, hbx, hpx, hpm.congr (fun p => (FTo_zero L q p).symm), hCs _ _ hC (htt _)⟩).mono ?_
      rintro e w3 ⟨rfl, hown3, ⟨i1, i2, i3, i4, i5⟩, ht3⟩
      rw [HKF] at hown3
      rw [← keys_filter] at hown3
      exact ⟨some ⟨g, 0, none⟩, gc, by rw [HKF], ⟨rfl, rfl, hown3, i3, i4.congr (FTo_end L q), (htt _).next ht3 (fun k _ hk => hk.elim (fun e => .inr (.inl e)) (fun e => .inr (.inr (by rw [e]; rfl))))⟩, i2, i3⟩
    · rintro e w' ⟨rfl, w3, A', c', ⟨rfl, rfl, hown3, i3, i4, ht3⟩, rfl⟩
      exact ⟨_, rfl, ⟨(i3.set_ 2 _).conv rfl, i4.far (p := ⟨x, 2, none⟩) (fun e => hxm e.symm) _, hown3.far (p := ⟨x, 2, none⟩) (fun e => hgx' (by simp [Value.ownBlock] at e; omega)) _, hp.bx, hp.bm, hndf, hokf⟩, rfl, ht3.setCell (p := ⟨x, 2, none⟩) (fun _ => .inl rfl) _⟩
theorem forget_drop (x m : Nat) (v : Value) (p1 : Value) (cap h ms : Int) (L : List Pg) (base : Nat) (q : Place → Bool) (InvC : World → Prop) (w : World) (hp : PoolM w base x m v cap L h ms) (hsmall : L.length ≤ 100000) (hC : InvC w)
    (hCs : ∀ W W', InvC W → Turned (fun k => k = m ∨ v.ownBlock = some k) W W' → InvC W')
    (hCall : ∀ j (hj : j < (keys L).length) W F, InvC W → Blk W x 61 #[.int .i64 cap, .map (some m), v, .int .i64 h, .int .i64 ms] → MapP W m F → F (keys L)[j] = FOf L (keys L)[j] →
      Calls Try.prog 28 #[.agg #[.int .i64 (keys L)[j].1, .int .i64 (keys L)[j].2], p1] W fun e w' => e = .returned (.bool (q (keys L)[j])) ∧ Grew W w') :
    Calls Try.prog 26 #[.pointer (some ⟨x, 0, none⟩), .func (.func 28) #[] #[p1]] w fun e w' => ∃ v', e = .returned (.int .i64 ((L.length : Int) - ((L.filter fun p => !q p.1).length : Int))) ∧ PoolM w' base x m v' cap (L.filter fun p => !q p.1) h ms ∧ v'.ownBlock = v.ownBlock ∧ Turned (fun k => k = x ∨ k = m ∨ v.ownBlock = some k) w w' := by
  have hxl := hp.blk.lt
  have hml := hp.map.lt
  have hfl := List.length_filter_le (fun p : Pg => !q p.1) L
  have HKF : ((keys L).filter fun p => !q p).length = (L.filter fun p => !q p.1).length := by rw [← keys_filter, keys_len]
  have hndf : (keys (L.filter fun p => !q p.1)).Nodup := by rw [keys_filter]; exact hp.nd.filter _
  have hokf : ∀ p ∈ keys (L.filter fun p => !q p.1), okPlace p := fun p h => by rw [keys_filter] at h; exact hp.ok p (List.mem_filter.1 h).1
  have hbx := ((Blk.new w 23 #[.pointer (some ⟨x, 0, none⟩)] rfl).alloc (.cells #[.func (.func 28) #[] #[p1]] 68)).drew
  have hbf := (Blk.new (w.alloc (.cells #[.pointer (some ⟨x, 0, none⟩)] 23)) 68 #[.func (.func 28) #[] #[p1]] (n := w.heap.size + 1) (by simp)).drew
  have hpx := ((hp.blk.alloc (.cells #[.pointer (some ⟨x, 0, none⟩)] 23)).alloc (.cells #[.func (.func 28) #[] #[p1]] 68)).drew
  have hpm := ((hp.map.alloc (.cells #[.pointer (some ⟨x, 0, none⟩)] 23)).alloc (.cells #[.func (.func 28) #[] #[p1]] 68)).drew
  have hpo := ((hp.own.alloc (.cells #[.pointer (some ⟨x, 0, none⟩)] 23)).alloc (.cells #[.func (.func 28) #[] #[p1]] 68)).drew
  have htt := fun S => ((((Turned.refl S w).alloc (.cells #[.pointer (some ⟨x, 0, none⟩)] 23)).alloc (.cells #[.func (.func 28) #[] #[p1]] 68)).drew)
  have hxm : ¬ x = m := blk_map_ne hp.blk hp.map
  rcases hp.own.form with ⟨hv, h0⟩ | ⟨g, gc, hv, hbg, hgl, hgc, hgcm⟩
  · subst hv
    have hL : L = [] := by
      have := congrArg List.length h0
      rw [placeC_len, keys_len] at this
      exact List.length_eq_zero_iff.1 this
    subst hL
    refine (forget_core x 28 #[p1] none 0 0 0 _ _ _ _ w hp.blk (by omega) (by omega) (fun w3 A' c' => A' = none ∧ c' = 0 ∧ w3 = (((w.alloc (.cells #[.pointer (some ⟨x, 0, none⟩)] 23)).alloc (.cells #[.func (.func 28) #[] #[p1]] 68)).drew)) ?_).mono ?_
    · refine (deleteFunc_nil _ _).mono ?_
      rintro e w3 ⟨rfl, rfl⟩
      exact ⟨none, 0, rfl, ⟨rfl, rfl, rfl⟩, hbx, hpx⟩
    · rintro e w' ⟨rfl, w3, A', c', ⟨rfl, rfl, rfl⟩, rfl⟩
      exact ⟨.slice none 0 0, rfl, ⟨(hpx.set_ 2 (.slice none 0 0)).conv rfl, hpm.far (p := ⟨x, 2, none⟩) (fun e => hxm e.symm) _, OwnL.nil _ _ _ _, hp.bx, hp.bm, hp.nd, hp.ok⟩, rfl, (htt _).setCell (p := ⟨x, 2, none⟩) (fun _ => .inl rfl) _⟩
  · rw [placeC_len, keys_len] at hv hgc
    subst hv
    have hgm := own_map_ne hp.own hp.map
    have hgx := hp.own.ne_blk hp.blk (by decide)
    have hgm' : ¬ g = m := fun e => hgm (by rw [e]; rfl)
    have hgx' : ¬ x = g := fun e => hgx (by rw [e]; rfl)
    have HINVS := calls_drop x m (w.heap.size + 1) w.heap.size g L.length gc base p1 cap h ms L q InvC hgm' hp.nd hp.ok (fun W W' h1 h2 => hCs W W' h1 (h2.mono (fun k _ hk => hk.imp id (fun e => by rw [e]; rfl)))) hCall
    refine (forget_core x 28 #[p1] (some ⟨g, 0, none⟩) gc L.length (L.filter fun p => !q p.1).length _ _ _ _ w hp.blk hsmall hfl (fun w3 A' c' => A' = some ⟨g, 0, none⟩ ∧ c' = gc ∧ OwnL w3 base 40 2 (.slice (some ⟨g, 0, none⟩) (L.filter fun p => !q p.1).length gc) ((keys (L.filter fun p => !q p.1)).map placeC) ∧ Blk w3 x 61 #[.int .i64 cap, .map (some m), .slice (some ⟨g, 0, none⟩) L.length gc, .int .i64 h, .int .i64 ms] ∧ MapP w3 m (FOf (L.filter fun p => !q p.1)) ∧ Turned (fun k => k = x ∨ k = m ∨ (Value.slice (some ⟨g, 0, none⟩) L.length gc).ownBlock = some k) w w3) ?_).mono ?_
    · refine (deleteFunc_any (w.heap.size + 1) w.heap.size q (keys L) g L.length gc base (fun k => k = m) (fun j W => Blk W (w.heap.size + 1) 68 #[.func (.func 28) #[] #[p1]] ∧ Blk W w.heap.size 23 #[.pointer (some ⟨x, 0, none⟩)] ∧ Blk W x 61 #[.int .i64 cap, .map (some m), .slice (some ⟨g, 0, none⟩) L.length gc, .int .i64 h, .int .i64 ms] ∧ MapP W m (FTo L q j) ∧ InvC W) (by rw [keys_len]) (by omega) hgm'
        (fun j W W' ⟨j1, j2, j3, j4, j5⟩ ht => ⟨j1.turned ht (by omega), j2.turned ht (by omega), j3.turned ht hgx', j4.turned ht (fun e => hgm' e.symm), hCs _ _ j5 (ht.mono (fun k _ e => .inr (by rw [e]; rfl)))⟩) (fun j W hj hi => HINVS j W hj hi) _ (by intro k hk; simp; omega) hpo ⟨hbf, hbx, hpx, hpm.congr (fun p => (FTo_zero L q p).symm), hCs _ _ hC (htt _)⟩).mono ?_
      rintro e w3 ⟨rfl, hown3, ⟨i1, i2, i3, i4, i5⟩, ht3⟩
      rw [HKF] at hown3
      rw [← keys_filter] at hown3
      exact ⟨some ⟨g, 0, none⟩, gc, by rw [HKF], ⟨rfl, rfl, hown3, i3, i4.congr (FTo_end L q), (htt _).next ht3 (fun k _ hk => hk.elim (fun e => .inr (.inl e)) (fun e => .inr (.inr (by rw [e]; rfl))))⟩, i2, i3⟩
    · rintro e w' ⟨rfl, w3, A', c', ⟨rfl, rfl, hown3, i3, i4, ht3⟩, rfl⟩
      exact ⟨_, rfl, ⟨(i3.set_ 2 _).conv rfl, i4.far (p := ⟨x, 2, none⟩) (fun e => hxm e.symm) _, hown3.far (p := ⟨x, 2, none⟩) (fun e => hgx' (by simp [Value.ownBlock] at e; omega)) _, hp.bx, hp.bm, hndf, hokf⟩, rfl, ht3.setCell (p := ⟨x, 2, none⟩) (fun _ => .inl rfl) _⟩
theorem forget_inv (x m : Nat) (v : Value) (p1 p2 p3 : Value) (cap h ms : Int) (L : List Pg) (base : Nat) (q : Place → Bool) (InvC : World → Prop) (w : World) (hp : PoolM w base x m v cap L h ms) (hsmall : L.length ≤ 100000) (hC : InvC w)
    (hCs : ∀ W W', InvC W → Turned (fun k => k = m ∨ v.ownBlock = some k) W W' → InvC W')
    (hCall : ∀ j (hj : j < (keys L).length) W F, InvC W → Blk W x 61 #[.int .i64 cap, .map (some m), v, .int .i64 h, .int .i64 ms] → MapP W m F → F (keys L)[j] = FOf L (keys L)[j] →
      Calls Try.prog 27 #[.agg #[.int .i64 (keys L)[j].1, .int .i64 (keys L)[j].2], p1, p2, p3] W fun e w' => e = .returned (.bool (q (keys L)[j])) ∧ Grew W w') :
    Calls Try.prog 26 #[.pointer (some ⟨x, 0, none⟩), .func (.func 27) #[] #[p1, p2, p3]] w fun e w' => ∃ v', e = .returned (.int .i64 ((L.length : Int) - ((L.filter fun p => !q p.1).length : Int))) ∧ PoolM w' base x m v' cap (L.filter fun p => !q p.1) h ms ∧ v'.ownBlock = v.ownBlock ∧ Turned (fun k => k = x ∨ k = m ∨ v.ownBlock = some k) w w' := by
  have hxl := hp.blk.lt
  have hml := hp.map.lt
  have hfl := List.length_filter_le (fun p : Pg => !q p.1) L
  have HKF : ((keys L).filter fun p => !q p).length = (L.filter fun p => !q p.1).length := by rw [← keys_filter, keys_len]
  have hndf : (keys (L.filter fun p => !q p.1)).Nodup := by rw [keys_filter]; exact hp.nd.filter _
  have hokf : ∀ p ∈ keys (L.filter fun p => !q p.1), okPlace p := fun p h => by rw [keys_filter] at h; exact hp.ok p (List.mem_filter.1 h).1
  have hbx := ((Blk.new w 23 #[.pointer (some ⟨x, 0, none⟩)] rfl).alloc (.cells #[.func (.func 27) #[] #[p1, p2, p3]] 68)).drew
  have hbf := (Blk.new (w.alloc (.cells #[.pointer (some ⟨x, 0, none⟩)] 23)) 68 #[.func (.func 27) #[] #[p1, p2, p3]] (n := w.heap.size + 1) (by simp)).drew
  have hpx := ((hp.blk.alloc (.cells #[.pointer (some ⟨x, 0, none⟩)] 23)).alloc (.cells #[.func (.func 27) #[] #[p1, p2, p3]] 68)).drew
  have hpm := ((hp.map.alloc (.cells #[.pointer (some ⟨x, 0, none⟩)] 23)).alloc (.cells #[.func (.func 27) #[] #[p1, p2, p3]] 68)).drew
  have hpo := ((hp.own.alloc (.cells #[.pointer (some ⟨x, 0, none⟩)] 23)).alloc (.cells #[.func (.func 27) #[] #[p1, p2, p3]] 68)).drew
  have htt := fun S => ((((Turned.refl S w).alloc (.cells #[.pointer (some ⟨x, 0, none⟩)] 23)).alloc (.cells #[.func (.func 27) #[] #[p1, p2, p3]] 68)).drew)
  have hxm : ¬ x = m := blk_map_ne hp.blk hp.map
  rcases hp.own.form with ⟨hv, h0⟩ | ⟨g, gc, hv, hbg, hgl, hgc, hgcm⟩
  · subst hv
    have hL : L = [] := by
      have := congrArg List.length h0
      rw [placeC_len, keys_len] at this
      exact List.length_eq_zero_iff.1 this
    subst hL
    refine (forget_core x 27 #[p1, p2, p3] none 0 0 0 _ _ _ _ w hp.blk (by omega) (by omega) (fun w3 A' c' => A' = none ∧ c' = 0 ∧ w3 = (((w.alloc (.cells #[.pointer (some ⟨x, 0, none⟩)] 23)).alloc (.cells #[.func (.func 27) #[] #[p1, p2, p3]] 68)).drew)) ?_).mono ?_
    · refine (deleteFunc_nil _ _).mono ?_
      rintro e w3 ⟨rfl, rfl⟩
      exact ⟨none, 0, rfl, ⟨rfl, rfl, rfl⟩, hbx, hpx⟩
    · rintro e w' ⟨rfl, w3, A', c', ⟨rfl, rfl, rfl⟩, rfl⟩
      exact ⟨.slice none 0 0, rfl, ⟨(hpx.set_ 2 (.slice none 0 0)).conv rfl, hpm.far (p := ⟨x, 2, none⟩) (fun e => hxm e.symm) _, OwnL.nil _ _ _ _, hp.bx, hp.bm, hp.nd, hp.ok⟩, rfl, (htt _).setCell (p := ⟨x, 2, none⟩) (fun _ => .inl rfl) _⟩
  · rw [placeC_len, keys_len] at hv hgc
    subst hv
    have hgm := own_map_ne hp.own hp.map
    have hgx := hp.own.ne_blk hp.blk (by decide)
    have hgm' : ¬ g = m := fun e => hgm (by rw [e]; rfl)
    have hgx' : ¬ x = g := fun e => hgx (by rw [e]; rfl)
    have HINVS := calls_inv x m (w.heap.size + 1) w.heap.size g L.length gc base p1 p2 p3 cap h ms L q InvC hgm' hp.nd hp.ok (fun W W' h1 h2 => hCs W W' h1 (h2.mono (fun k _ hk => hk.imp id (fun e => by rw [e]; rfl)))) hCall
    refine (forget_core x 27 #[p1, p2, p3] (some ⟨g, 0, none⟩) gc L.length (L.filter fun p => !q p.1).length _ _ _ _ w hp.blk hsmall hfl (fun w3 A' c' => A' = some ⟨g, 0, none⟩ ∧ c' = gc ∧ OwnL w3 base 40 2 (.slice (some ⟨g, 0, none⟩) (L.filter fun p => !q p.1).length gc) ((keys (L.filter fun p => !q p.1)).map placeC) ∧ Blk w3 x 61 #[.int .i64 cap, .map (some m), .slice (some ⟨g, 0, none⟩) L.length gc, .int .i64 h, .int .i64 ms] ∧ MapP w3 m (FOf (L.filter fun p => !q p.1)) ∧ Turned (fun k => k = x ∨ k = m ∨ (Value.slice (some ⟨g, 0, none⟩) L.length gc).ownBlock = some k) w w3) ?_).mono ?_
    · refine (deleteFunc_any (w.heap.size + 1) w.heap.size q (keys L) g L.length gc base (fun k => k = m) (fun j W => Blk W (w.heap.size + 1) 68 #[.func (.func 27) #[] #[p1, p2, p3]] ∧ Blk W w.heap.size 23 #[.pointer (some ⟨x, 0, none⟩)] ∧ Blk W x 61 #[.int .i64 cap, .map (some m), .slice (some ⟨g, 0, none⟩) L.length gc, .int .i64 h, .int .i64 ms] ∧ MapP W m (FTo L q j) ∧ InvC W) (by rw [keys_len]) (by omega) hgm'
        (fun j W W' ⟨j1, j2, j3, j4, j5⟩ ht => ⟨j1.turned ht (by omega), j2.turned ht (by omega), j3.turned ht hgx', j4.turned ht (fun e => hgm' e.symm), hCs _ _ j5 (ht.mono (fun k _ e => .inr (by rw [e]; rfl)))⟩) (fun j W hj hi => HINVS j W hj hi) _ (by intro k hk; simp; omega) hpo ⟨hbf, hbx, hpx, hpm.congr (fun p => (FTo_zero L q p).symm), hCs _ _ hC (htt _)⟩).mono ?_
      rintro e w3 ⟨rfl, hown3, ⟨i1, i2, i3, i4, i5⟩, ht3⟩
      rw [HKF] at hown3
      rw [← keys_filter] at hown3
      exact ⟨some ⟨g, 0, none⟩, gc, by rw [HKF], ⟨rfl, rfl, hown3, i3, i4.congr (FTo_end L q), (htt _).next ht3 (fun k _ hk => hk.elim (fun e => .inr (.inl e)) (fun e => .inr (.inr (by rw [e]; rfl))))⟩, i2, i3⟩
    · rintro e w' ⟨rfl, w3, A', c', ⟨rfl, rfl, hown3, i3, i4, ht3⟩, rfl⟩
      exact ⟨_, rfl, ⟨(i3.set_ 2 _).conv rfl, i4.far (p := ⟨x, 2, none⟩) (fun e => hxm e.symm) _, hown3.far (p := ⟨x, 2, none⟩) (fun e => hgx' (by simp [Value.ownBlock] at e; omega)) _, hp.bx, hp.bm, hndf, hokf⟩, rfl, ht3.setCell (p := ⟨x, 2, none⟩) (fun _ => .inl rfl) _⟩
end Go.Proofs.Ytfmhiocigoejjaa
