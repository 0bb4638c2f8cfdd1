/- use: a page becomes the one that was used last. -/
import Derived.Test.YtfmhiocigoejjaaBufE
namespace Go.Proofs.Ytfmhiocigoejjaa
set_option linter.unusedVariables false
set_option linter.unusedSimpArgs false
set_option linter.unusedSectionVars false
open Go.RowKit
open Go.Maps (Keyed)
attribute [local go_sem ↓] Go.wp_at_zero Go.wp_at_succ
theorem look_snoc (L : List Pg) (p : Place) (c : ByteArray × Int) (hp : p ∉ keys L) (a : Place) : look (L ++ [(p, c)]) a = if a = p then some c else look L a := by
  unfold look
  rw [List.find?_append]
  by_cases h : a = p
  · subst h
    have : L.find? (fun x => decide (x.1 = a)) = none := List.find?_eq_none.2 (fun x hx => by
      rw [decide_eq_true_eq]; rintro rfl; exact hp (List.mem_map_of_mem hx))
    rw [this, if_pos rfl]
    simp
  · rw [if_neg h]
    cases hf : L.find? (fun x => decide (x.1 = a)) with
    | some y => rfl
    | none => simp [Ne.symm h]
theorem keys_snoc (L : List Pg) (p : Place) (c : ByteArray × Int) : keys (L ++ [(p, c)]) = keys L ++ [p] := by simp [keys]
/-- The pages without one. -/
def rmv (L : List Pg) (p : Place) : List Pg := L.filter fun x => !decide (x.1 = p)
theorem rmv_mem (L : List Pg) (p : Place) : p ∉ keys (rmv L p) := by
  intro h
  obtain ⟨x, hx, rfl⟩ := List.mem_map.1 h
  have := (List.mem_filter.1 hx).2
  simp at this
theorem rmv_len (L : List Pg) (p : Place) : (rmv L p).length ≤ L.length := List.length_filter_le _ _
theorem FOf_snoc (L : List Pg) (p : Place) (c : ByteArray × Int) (hp : p ∉ keys L) (a : Place) : upd (FOf L) p (some (contentV c.1 c.2)) a = FOf (L ++ [(p, c)]) a := by
  unfold FOf
  rw [look_snoc L p c hp]
  by_cases h : a = p
  · subst h; rw [upd_same, if_pos rfl]; rfl
  · rw [upd_other _ _ h, if_neg h]
/-- The blocks that a pool's calls may turn. -/
structure Foot (S : Nat → Prop) (w : World) (x m : Nat) (v : Value) : Prop where
  x : S x
  m : S m
  own : ∀ k, v.ownBlock = some k → S k
  new : ∀ k, w.heap.size ≤ k → S k
theorem Foot.all {S : Nat → Prop} {w : World} {x m : Nat} {v : Value} (h : Foot S w x m v) {k : Nat} (hk : k = x ∨ k = m ∨ v.ownBlock = some k) : S k := by
  rcases hk with rfl | rfl | hk
  · exact h.x
  · exact h.m
  · exact h.own _ hk
theorem Foot.base {w : World} {base x m : Nat} {v : Value} {cap h ms : Int} {L : List Pg} (hp : PoolM w base x m v cap L h ms) (hbw : base ≤ w.heap.size) : Foot (fun k => base ≤ k) w x m v :=
  ⟨hp.bx, hp.bm, fun k hk => (hp.own.own_ge hk).1, fun k hk => by omega⟩
theorem Foot.next {S : Nat → Prop} {w w' : World} {x m : Nat} {v v' : Value} (h : Foot S w x m v) (hs : w.heap.size ≤ w'.heap.size) (ho : ∀ k, v'.ownBlock = some k → S k) : Foot S w' x m v' :=
  ⟨h.x, h.m, ho, fun k hk => h.new k (by omega)⟩
/-- A block that another part of the program needs is taken out of the pool's own. -/
theorem Foot.less {S : Nat → Prop} {w : World} {x m : Nat} {v : Value} (h : Foot S w x m v) (g : Nat) (hg : g < w.heap.size) (h1 : g ≠ x) (h2 : g ≠ m) (h3 : v.ownBlock ≠ some g) : Foot (fun k => S k ∧ k ≠ g) w x m v :=
  ⟨⟨h.x, fun e => h1 e.symm⟩, ⟨h.m, fun e => h2 e.symm⟩, fun k hk => ⟨h.own k hk, fun e => h3 (by rw [← e]; exact hk)⟩, fun k hk => ⟨h.new k hk, by omega⟩⟩
set_option maxRecDepth 100000 in
set_option maxHeartbeats 4000000 in
theorem use_any (x m base : Nat) (v : Value) (cap h ms : Int) (L : List Pg) (a b : Int) (s : ByteArray) (u : Int) (w : World) (hp : PoolM w base x m v cap L h ms) (hsmall : L.length ≤ 50000) (hok : okPlace (a, b)) (hbw : base ≤ w.heap.size) :
    Calls Try.prog 25 #[.pointer (some ⟨x, 0, none⟩), .agg #[.int .i64 a, .int .i64 b], .agg #[.string s, .int .i64 u]] w fun e w' => e = .returned (.tuple #[]) ∧ ∃ v', PoolM w' base x m v' cap (rmv L (a, b) ++ [((a, b), (s, u))]) h ms ∧ (∀ k, v'.ownBlock = some k → v.ownBlock = some k ∨ w.heap.size ≤ k) ∧ Turned (fun k => k = x ∨ k = m ∨ v.ownBlock = some k) w w' := by
  have hxl := hp.blk.lt
  have hml := hp.map.lt
  have hgl : ∀ k, v.ownBlock = some k → k < w.heap.size := fun k hk => (hp.own.own_ge hk).2
  have hP1 : PoolM ((w.alloc (.cells #[.int .i64 a, .int .i64 b] 40)).alloc (.cells #[.string s, .int .i64 u] 64)) base x m v cap L h ms :=
    ⟨(hp.blk.alloc _).alloc _, (hp.map.alloc _).alloc _, (hp.own.alloc _).alloc _, hp.bx, hp.bm, hp.nd, hp.ok⟩
  have hA1 := (Blk.new w 40 #[.int .i64 a, .int .i64 b] rfl).alloc (.cells #[.string s, .int .i64 u] 64)
  have hC1 := Blk.new (w.alloc (.cells #[.int .i64 a, .int .i64 b] 40)) 64 #[.string s, .int .i64 u] (n := w.heap.size + 1) (by simp)
  have HF := Lib.hid (forget_use x m v (.pointer (some ⟨w.heap.size, 0, none⟩)) cap h ms L base (fun p => decide (p = (a, b))) (fun W => Blk W w.heap.size 40 #[.int .i64 a, .int .i64 b]) _ hP1 (by omega) hA1
    (fun W W' h1 h2 => h1.turned h2 (fun hk => hk.elim (fun e => by omega) (fun e => by have := hgl _ e; omega)))
    (fun j hj W F h1 _ _ _ => use1_any _ _ a b w.heap.size W h1))
  have HR := Lib.hid (show (L.filter fun p => !decide (p.1 = (a, b))) = rmv L (a, b) from rfl)
  have hrl := rmv_len L (a, b)
  have HNM := Lib.hid (rmv_mem L (a, b))
  have ht0 := ((Turned.refl (fun k => k = x ∨ k = m ∨ v.ownBlock = some k) w).alloc (.cells #[.int .i64 a, .int .i64 b] 40)).alloc (.cells #[.string s, .int .i64 u] 64)
  have HP0 := Lib.hid hp
  clear hP1 hp
  go_enter Try.func25, Try.ntmps25
  go_wp2_with fail
  refine HF.out.mono ?_
  rintro e w1 ⟨v1, rfl, hp1, hv1, ht1⟩
  rw [HR.out] at hp1
  have hA := hA1.turned ht1 (fun hk => hk.elim (fun e => by omega) (fun hk => hk.elim (fun e => by omega) (fun e => by have := hgl _ e; omega)))
  have hC := hC1.turned ht1 (fun hk => hk.elim (fun e => by omega) (fun hk => hk.elim (fun e => by omega) (fun e => by have := hgl _ e; omega)))
  have htw := ht0.trans ht1
  have hz1 := ht1.size
  simp at hz1
  have a0 := hA.cell 0
  have a1 := hA.cell 1
  have b0 := hC.cell 0
  have b1 := hC.cell 1
  have x0 := hp1.blk.cell 0
  have x1 := hp1.blk.cell 1
  have HP1 := Lib.hid hp1
  have HT1 := Lib.hid htw
  have HV1 := Lib.hid hv1
  clear hA1 hC1 ht0 ht1 hp1 htw hv1 HF
  go_wp2_with fail
  have hS : (fun w' : World => w'.cell? ⟨w.heap.size, 0, none⟩ = some (.int .i64 a) ∧ w'.cell? ⟨w.heap.size, 1, none⟩ = some (.int .i64 b) ∧ w'.cell? ⟨w.heap.size + 1, 0, none⟩ = some (.string s) ∧ w'.cell? ⟨w.heap.size + 1, 1, none⟩ = some (.int .i64 u) ∧ w'.cell? ⟨x, 0, none⟩ = some (.int .i64 cap) ∧ w'.cell? ⟨x, 1, none⟩ = some (.map (some m))) w1.drew := ⟨a0, a1, b0, b1, x0, x1⟩
  refine wp_region_G [6] (fun w' : World => w'.cell? ⟨w.heap.size, 0, none⟩ = some (.int .i64 a) ∧ w'.cell? ⟨w.heap.size, 1, none⟩ = some (.int .i64 b) ∧ w'.cell? ⟨w.heap.size + 1, 0, none⟩ = some (.string s) ∧ w'.cell? ⟨w.heap.size + 1, 1, none⟩ = some (.int .i64 u) ∧ w'.cell? ⟨x, 0, none⟩ = some (.int .i64 cap) ∧ w'.cell? ⟨x, 1, none⟩ = some (.map (some m))) (by kernel_rfl) ?_
  refine wpAnyG_take (i := 0) (v := ?_) [1, 2, 3, 6] (some 9) rfl rfl (by kernel_rfl) (by kernel_rfl) (by kernel_rfl) (by kernel_rfl) (by kernel_rfl) (by kernel_rfl) (by kernel_rfl) (fun _ _ _ h => h) (Or.inl ⟨by rfl, ?_⟩) hS ?_
  rotate_left
  focus (intro wS hSw; (try dsimp only at hSw); go_simp; (try with_reducible rfl))
  try simp only [Act.put, List.setIfInBounds_toArray, List.set_cons_zero, List.set_cons_succ]
  refine wpAnyG_take (i := 1) (v := ?_) [2, 3, 6] (some 10) rfl rfl (by kernel_rfl) (by kernel_rfl) (by kernel_rfl) (by kernel_rfl) (by kernel_rfl) (by kernel_rfl) (by kernel_rfl) (fun _ _ _ h => h) (Or.inl ⟨by rfl, ?_⟩) hS ?_
  rotate_left
  focus (intro wS hSw; (try dsimp only at hSw); go_simp; (try with_reducible rfl))
  try simp only [Act.put, List.setIfInBounds_toArray, List.set_cons_zero, List.set_cons_succ]
  refine wpAnyG_take (i := 2) (v := ?_) [3, 6] (some 11) rfl rfl (by kernel_rfl) (by kernel_rfl) (by kernel_rfl) (by kernel_rfl) (by kernel_rfl) (by kernel_rfl) (by kernel_rfl) (fun _ _ _ h => h) (Or.inl ⟨by rfl, ?_⟩) hS ?_
  rotate_left
  focus (intro wS hSw; (try dsimp only at hSw); go_simp; (try with_reducible rfl))
  try simp only [Act.put, List.setIfInBounds_toArray, List.set_cons_zero, List.set_cons_succ]
  refine wpAnyG_take (i := 3) (v := ?_) [6] (some 12) rfl rfl (by kernel_rfl) (by kernel_rfl) (by kernel_rfl) (by kernel_rfl) (by kernel_rfl) (by kernel_rfl) (by kernel_rfl) (fun _ _ _ h => h) (Or.inl ⟨by rfl, ?_⟩) hS ?_
  rotate_left
  focus (intro wS hSw; (try dsimp only at hSw); go_simp; (try with_reducible rfl))
  try simp only [Act.put, List.setIfInBounds_toArray, List.set_cons_zero, List.set_cons_succ]
  refine wpAnyG_take (i := 4) (v := ?_) [6] (some 13) rfl rfl (by kernel_rfl) (by kernel_rfl) (by kernel_rfl) (by kernel_rfl) (by kernel_rfl) (by kernel_rfl) (by kernel_rfl) (fun _ _ _ h => h) (Or.inl ⟨by rfl, ?_⟩) hS ?_
  rotate_left
  focus (intro wS hSw; (try dsimp only at hSw); go_simp; (try with_reducible rfl))
  try simp only [Act.put, List.setIfInBounds_toArray, List.set_cons_zero, List.set_cons_succ]
  refine wpAnyG_take (i := 5) (v := ?_) [6] (some 14) rfl rfl (by kernel_rfl) (by kernel_rfl) (by kernel_rfl) (by kernel_rfl) (by kernel_rfl) (by kernel_rfl) (by kernel_rfl) (fun _ _ _ h => h) (Or.inl ⟨by rfl, ?_⟩) hS ?_
  rotate_left
  focus (intro wS hSw; (try dsimp only at hSw); go_simp; (try with_reducible rfl))
  try simp only [Act.put, List.setIfInBounds_toArray, List.set_cons_zero, List.set_cons_succ]
  refine wpAnyG_one (i := 6) rfl (by kernel_rfl) ?_
  intro K' hK
  rw [if_pos (by rfl)]
  simp only [List.getElem_toArray, List.getElem_cons_succ, List.getElem_cons_zero]
  obtain ⟨kl, hkey⟩ := place_key (a, b) hok
  refine wp_mapUpdate_is (.tmp 12) (.tmp 13) (.tmp 14) 59 rfl 64 place_keyed place_inj Try.underlying59 rfl HP1.out.map.drew (a, b) hkey (contentV s u) rfl rfl ?_
  intro w3 hm3 ht3
  refine hK.out _ _ (.inl rfl) ?_
  refine wpAnyG_done (by kernel_rfl) ?_ _
  have htd : Turned (fun k => k = m) w1 w3 := (Turned.refl _ w1).drew.trans ht3
  have hz3 := htd.size
  have n1 : ¬ w.heap.size = m := by omega
  have n2 : ¬ w.heap.size + 1 = m := by omega
  have hp1 := HP1.out
  have n3 : ¬ x = m := blk_map_ne hp1.blk hp1.map
  have hA3 := hA.turned htd n1
  have hX3 := hp1.blk.turned htd n3
  have hO3 := hp1.own.kept htd (fun g hg e => own_map_ne hp1.own hp1.map (by rw [hg, e]))
  have HM3 := Lib.hid (hm3.congr (fun p => FOf_snoc (rmv L (a, b)) (a, b) (s, u) HNM.out p))
  have hgx := hp1.own.ne_blk hp1.blk (by decide)
  have hga : v1.ownBlock ≠ some w.heap.size := fun e => by rw [HV1.out] at e; have := hgl _ e; omega
  have hgm := own_map_ne hp1.own hp1.map
  have hbx1 := hp1.bx
  clear hK hS hm3 ht3 hkey hp1 a0 a1 b0 b1 x0 x1 hA
  have a0 := hA3.cell 0
  have a1 := hA3.cell 1
  have x0 := hX3.cell 0
  have x2 := hX3.cell 2
  simp only [Act.put, List.setIfInBounds_toArray, List.set_cons_zero, List.set_cons_succ]
  go_wp2_with fail
  have hS : (fun w' : World => w'.cell? ⟨w.heap.size, 0, none⟩ = some (.int .i64 a) ∧ w'.cell? ⟨w.heap.size, 1, none⟩ = some (.int .i64 b) ∧ w'.cell? ⟨x, 0, none⟩ = some (.int .i64 cap) ∧ w'.cell? ⟨x, 2, none⟩ = some v1) w3.drew := ⟨a0, a1, x0, x2⟩
  refine wp_region_G [10] (fun w' : World => w'.cell? ⟨w.heap.size, 0, none⟩ = some (.int .i64 a) ∧ w'.cell? ⟨w.heap.size, 1, none⟩ = some (.int .i64 b) ∧ w'.cell? ⟨x, 0, none⟩ = some (.int .i64 cap) ∧ w'.cell? ⟨x, 2, none⟩ = some v1) (by kernel_rfl) ?_
  refine wpAnyG_take (i := 0) (v := ?_) [8, 9, 10] (some 15) rfl rfl (by kernel_rfl) (by kernel_rfl) (by kernel_rfl) (by kernel_rfl) (by kernel_rfl) (by kernel_rfl) (by kernel_rfl) (fun _ _ _ h => h) (Or.inl ⟨by rfl, ?_⟩) hS ?_
  rotate_left
  focus (intro wS hSw; (try dsimp only at hSw); go_simp; (try with_reducible rfl))
  try simp only [Act.put, List.setIfInBounds_toArray, List.set_cons_zero, List.set_cons_succ]
  refine wpAnyG_take (i := 1) (v := ?_) [2, 3, 4, 7, 10] (some 16) rfl rfl (by kernel_rfl) (by kernel_rfl) (by kernel_rfl) (by kernel_rfl) (by kernel_rfl) (by kernel_rfl) (by kernel_rfl) (fun _ _ _ h => h) (Or.inl ⟨by rfl, ?_⟩) hS ?_
  rotate_left
  focus (intro wS hSw; (try dsimp only at hSw); go_simp; (try with_reducible rfl))
  try simp only [Act.put, List.setIfInBounds_toArray, List.set_cons_zero, List.set_cons_succ]
  refine wpAnyG_take (i := 2) (v := ?_) [3, 4, 7, 10] (some 17) rfl rfl (by kernel_rfl) (by kernel_rfl) (by kernel_rfl) (by kernel_rfl) (by kernel_rfl) (by kernel_rfl) (by kernel_rfl) (fun _ _ _ h => h) (Or.inl ⟨by rfl, ?_⟩) hS ?_
  rotate_left
  focus (intro wS hSw; (try dsimp only at hSw); go_simp; (try with_reducible rfl))
  try simp only [Act.put, List.setIfInBounds_toArray, List.set_cons_zero, List.set_cons_succ]
  refine wpAnyG_take (i := 3) (v := ?_) [4, 7, 10] (some 18) rfl rfl (by kernel_rfl) (by kernel_rfl) (by kernel_rfl) (by kernel_rfl) (by kernel_rfl) (by kernel_rfl) (by kernel_rfl) (fun _ _ _ h => h) (Or.inl ⟨by rfl, ?_⟩) hS ?_
  rotate_left
  focus (intro wS hSw; (try dsimp only at hSw); go_simp; (try with_reducible rfl))
  try simp only [Act.put, List.setIfInBounds_toArray, List.set_cons_zero, List.set_cons_succ]
  refine wpAnyG_take (i := 4) (v := ?_) [7, 10] (some 19) rfl rfl (by kernel_rfl) (by kernel_rfl) (by kernel_rfl) (by kernel_rfl) (by kernel_rfl) (by kernel_rfl) (by kernel_rfl) (fun _ _ _ h => h) (Or.inl ⟨by rfl, ?_⟩) hS ?_
  rotate_left
  focus (intro wS hSw; (try dsimp only at hSw); go_simp; (try with_reducible rfl))
  try simp only [Act.put, List.setIfInBounds_toArray, List.set_cons_zero, List.set_cons_succ]
  refine wpAnyG_take (i := 5) (v := ?_) [6, 7, 10] (some 20) rfl rfl (by kernel_rfl) (by kernel_rfl) (by kernel_rfl) (by kernel_rfl) (by kernel_rfl) (by kernel_rfl) (by kernel_rfl) (fun _ _ _ h => h) (Or.inl ⟨by rfl, ?_⟩) hS ?_
  rotate_left
  focus (intro wS hSw; (try dsimp only at hSw); go_simp; (try with_reducible rfl))
  try simp only [Act.put, List.setIfInBounds_toArray, List.set_cons_zero, List.set_cons_succ]
  refine wpAnyG_one (i := 6) rfl (by kernel_rfl) ?_
  intro K' hK
  rw [if_pos (by rfl)]
  simp only [List.getElem_toArray, List.getElem_cons_succ, List.getElem_cons_zero]
  go_wp2_with fail
  have hA4 := (hA3.drew.alloc (.cells #[.int .i64 a, .int .i64 b] 40))
  have hX4 := (hX3.drew.alloc (.cells #[.int .i64 a, .int .i64 b] 40))
  refine hK.out _ _ (.inr ⟨hA4.cell 0, hA4.cell 1, hX4.cell 0, hX4.cell 2⟩) ?_
  clear hK hS
  refine wpAnyG_one (i := 7) rfl (by kernel_rfl) ?_
  intro K' hK
  rw [if_pos (by rfl)]
  simp only [List.getElem_toArray, List.getElem_cons_succ, List.getElem_cons_zero]
  refine wp_push (.tmp 19) (.tmp 21) 28 rfl base 40 2 16 _ Try.underlying28 info_place rfl (by decide) _ v1 ((keys (rmv L (a, b))).map placeC) (placeC (a, b)) rfl rfl (hO3.drew.alloc _) w3.heap.size rfl (Blk.new w3.drew _ _ rfl) rfl (by rw [placeC_len, keys_len]; omega) (by rw [placeC_len, keys_len]; omega) (by simp; omega) (rmv L (a, b)).length (by rw [placeC_len, keys_len]) ?_
  intro g5 c5 w5 hown5 hgrow hat hlt5
  have hz5 := hgrow.size
  simp at hz5
  have hA5 := hA4.own hgrow hga
  have hX5 := hX4.own hgrow hgx
  have HM5 := Lib.hid ((HM3.out.drew.alloc (.cells #[.int .i64 a, .int .i64 b] 40)).grown hgrow hgm)
  refine hK.out _ _ (.inr ⟨hA5.cell 0, hA5.cell 1, hX5.cell 0, hX5.cell 2⟩) ?_
  clear hK
  have hS : (fun w' : World => w'.cell? ⟨w.heap.size, 0, none⟩ = some (.int .i64 a) ∧ w'.cell? ⟨w.heap.size, 1, none⟩ = some (.int .i64 b) ∧ w'.cell? ⟨x, 0, none⟩ = some (.int .i64 cap) ∧ w'.cell? ⟨x, 2, none⟩ = some v1) w5 := ⟨hA5.cell 0, hA5.cell 1, hX5.cell 0, hX5.cell 2⟩
  simp only [Act.put, List.setIfInBounds_toArray, List.set_cons_zero, List.set_cons_succ]
  refine wpAnyG_take (i := 8) (v := ?_) [9, 10] (some 23) rfl rfl (by kernel_rfl) (by kernel_rfl) (by kernel_rfl) (by kernel_rfl) (by kernel_rfl) (by kernel_rfl) (by kernel_rfl) (fun _ _ _ h => h) (Or.inl ⟨by rfl, ?_⟩) hS ?_
  rotate_left
  focus (intro wS hSw; (try dsimp only at hSw); go_simp; (try with_reducible rfl))
  try simp only [Act.put, List.setIfInBounds_toArray, List.set_cons_zero, List.set_cons_succ]
  refine wpAnyG_take (i := 9) (v := ?_) [10] (some 24) rfl rfl (by kernel_rfl) (by kernel_rfl) (by kernel_rfl) (by kernel_rfl) (by kernel_rfl) (by kernel_rfl) (by kernel_rfl) (fun _ _ _ h => h) (Or.inl ⟨by rfl, ?_⟩) hS ?_
  rotate_left
  focus (intro wS hSw; (try dsimp only at hSw); go_simp; (try with_reducible rfl))
  try simp only [Act.put, List.setIfInBounds_toArray, List.set_cons_zero, List.set_cons_succ]
  refine wpAnyG_one (i := 10) rfl (by kernel_rfl) ?_
  intro K' hK
  rw [if_pos (by rfl)]
  simp only [List.getElem_toArray, List.getElem_cons_succ, List.getElem_cons_zero]
  have xf := hX5.frozen 2
  have xc := hX5.cell 2
  clear a0 a1 x0 x2
  go_wp2_with fail
  refine hK.out _ _ (.inl rfl) ?_
  refine wpAnyG_done (by kernel_rfl) ?_ _
  clear hK hS
  go_wp2_with fail
  go_end0
  have hp1 := HP1.out
  have hnn : ¬ g5 = x := fun e => by
    rcases hat with h1 | h1
    · exact hgx (by rw [h1, e])
    · simp at h1; omega
  refine ⟨rfl, _, ⟨(hX5.set_ 2 _).conv rfl, HM5.out.far (p := ⟨x, 2, none⟩) (fun e => n3 e.symm) _, ?_, hp1.bx, hp1.bm, ?_, ?_⟩, ?_, ?_⟩
  · rw [keys_snoc, List.map_append]
    exact hown5.far (p := ⟨x, 2, none⟩) (fun e => hnn (by simpa [Value.ownBlock] using e)) _
  · rw [keys_snoc, List.nodup_append]
    exact ⟨hp1.nd, by simp, fun y hy z hz e => by rw [List.mem_singleton.1 hz] at e; subst e; exact HNM.out hy⟩
  · intro p hp
    rw [keys_snoc] at hp
    rcases List.mem_append.1 hp with hp | hp
    · exact hp1.ok p hp
    · rw [List.mem_singleton.1 hp]; exact hok
  · intro k hk
    have hk5 : g5 = k := by simpa [Value.ownBlock] using hk
    subst hk5
    rcases hat with h1 | h1
    · left; rw [← HV1.out]; exact h1
    · right
      have := htd.size
      have := HT1.out.size
      simp at h1
      omega
  · have hgt : Turned (fun k => v1.ownBlock = some k) ((w3.drew).alloc (.cells #[.int .i64 a, .int .i64 b] 40)) w5 := ⟨hgrow.os, hgrow.tape, hgrow.output, hgrow.size, fun k hk hs => hgrow.block k hk (fun e => hs e.symm)⟩
    exact (((HT1.out.next htd (fun k _ e => .inr (.inl e))).drew.alloc _).next hgt (fun k _ e => .inr (.inr (by rw [← HV1.out]; exact e)))).setCell (p := ⟨x, 2, none⟩) (fun _ => .inl rfl) _
end Go.Proofs.Ytfmhiocigoejjaa
