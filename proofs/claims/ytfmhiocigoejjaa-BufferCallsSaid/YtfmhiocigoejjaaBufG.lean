/- Get, Put, Invalidate, Drop. -/
import Derived.Test.YtfmhiocigoejjaaBufF
namespace Go.Proofs.Ytfmhiocigoejjaa
set_option linter.unusedVariables false
set_option linter.unusedSimpArgs false
set_option linter.unusedSectionVars false
open Go.RowKit
open Go.Maps (Keyed)
attribute [local go_sem ↓] Go.wp_at_zero Go.wp_at_succ
theorem results3 {fn : Func} {t u v : Tmp} (h : fn.results = #[.tmp t, .tmp u, .tmp v]) (tmps : Array Value) (P : Program) (w : World) :
    (results fn tmps).run P w = .ok (.tuple #[tmps.getD t undef, tmps.getD u undef, tmps.getD v undef]) w := by simp [results, h]
set_option maxRecDepth 100000 in
set_option maxHeartbeats 4000000 in
theorem lookup_none {m : Nat} {L : List Pg} {a b : Int} {W : World} (hm : MapP W m (FOf L)) (hok : okPlace (a, b)) (hl : look L (a, b) = none) :
    (Instr.lookup 59 (.map (some m)) (.agg #[.int .i64 a, .int .i64 b]) true).run Try.prog W = .ok (.tuple #[.agg #[.string ⟨#[]⟩, .int .i64 0], .bool false]) W := by
  obtain ⟨kl, hkey⟩ := place_key (a, b) hok
  have := hm.lookup_ok place_keyed place_inj Try.underlying59 (zero_content _) (a, b) hkey
  unfold FOf at this
  rw [hl] at this
  exact this
theorem lookup_some {m : Nat} {L : List Pg} {a b : Int} {W : World} (hm : MapP W m (FOf L)) (hok : okPlace (a, b)) (s : ByteArray) (u : Int) (hl : look L (a, b) = some (s, u)) :
    (Instr.lookup 59 (.map (some m)) (.agg #[.int .i64 a, .int .i64 b]) true).run Try.prog W = .ok (.tuple #[.agg #[.string s, .int .i64 u], .bool true]) W := by
  obtain ⟨kl, hkey⟩ := place_key (a, b) hok
  have := hm.lookup_ok place_keyed place_inj Try.underlying59 (zero_content _) (a, b) hkey
  unfold FOf at this
  rw [hl] at this
  exact this
set_option maxRecDepth 100000 in
set_option maxHeartbeats 4000000 in
theorem get_none (x m base : Nat) (v : Value) (cap h ms : Int) (L : List Pg) (a b : Int)  (w : World) (S : Nat → Prop) (hp : PoolM w base x m v cap L h ms) (hF : Foot S w x m v) (hsmall : L.length ≤ 50000) (hbw : base ≤ w.heap.size) (hok : okPlace (a, b)) (hbd : 0 ≤ ms ∧ ms ≤ 1000000) (hl : look L (a, b) = none) :
    Calls Try.prog 17 #[.pointer (some ⟨x, 0, none⟩), .int .i64 a, .int .i64 b] w fun e w' => e = .returned (.tuple #[.string ⟨#[]⟩, .int .i64 0, .bool false]) ∧ (∃ v', PoolM w' base x m v' cap L h (ms + 1) ∧ Foot S w' x m v') ∧ Turned S w w' := by
  obtain ⟨hbd0, hbd1⟩ := hbd
  have hxl := hp.blk.lt
  have hml := hp.map.lt
  have hA1 := (Blk.new w 40 #[.int .i64 a, .int .i64 b] rfl)
  have hX1 := hp.blk.alloc (.cells #[.int .i64 a, .int .i64 b] 40)
  have hM1 := hp.map.alloc (.cells #[.int .i64 a, .int .i64 b] 40)
  have HLK := fun W hm => Lib.hid (lookup_none (W := W) (m := m) (L := L) hm hok  hl)
  have HP := Lib.hid hp
  have HFT := Lib.hid hF
  clear hF
  have HL := Lib.hid hl
  clear hp hl
  go_enter Try.func17, Try.ntmps17
  go_wp2_with fail
  have hS : (fun w' : World => w'.cell? ⟨w.heap.size, 0, none⟩ = some (.int .i64 a) ∧ w'.cell? ⟨w.heap.size, 1, none⟩ = some (.int .i64 b) ∧ w'.cell? ⟨x, 0, none⟩ = some (.int .i64 cap) ∧ w'.cell? ⟨x, 1, none⟩ = some (.map (some m)) ∧ (Instr.lookup 59 (.map (some m)) (.agg #[.int .i64 a, .int .i64 b]) true).run Try.prog w' = .ok (.tuple #[.agg #[.string ⟨#[]⟩, .int .i64 0], .bool false]) w') (w.alloc (.cells #[.int .i64 a, .int .i64 b] 40)).drew := ⟨hA1.cell 0, hA1.cell 1, hX1.cell 0, hX1.cell 1, (HLK _ hM1.drew).out⟩
  refine wp_region_G [] (fun w' : World => w'.cell? ⟨w.heap.size, 0, none⟩ = some (.int .i64 a) ∧ w'.cell? ⟨w.heap.size, 1, none⟩ = some (.int .i64 b) ∧ w'.cell? ⟨x, 0, none⟩ = some (.int .i64 cap) ∧ w'.cell? ⟨x, 1, none⟩ = some (.map (some m)) ∧ (Instr.lookup 59 (.map (some m)) (.agg #[.int .i64 a, .int .i64 b]) true).run Try.prog w' = .ok (.tuple #[.agg #[.string ⟨#[]⟩, .int .i64 0], .bool false]) w') (by kernel_rfl) ?_
  refine wpAnyG_take (i := 0) (v := ?_) [] (some 16) rfl rfl (by kernel_rfl) (by kernel_rfl) (by kernel_rfl) (by kernel_rfl) (by kernel_rfl) (by kernel_rfl) (by kernel_rfl) (fun _ _ _ h => h) (Or.inl ⟨by rfl, ?_⟩) hS ?_
  rotate_left
  focus (intro wS hSw; (try dsimp only at hSw); go_simp; (try with_reducible rfl))
  try simp only [Act.put, List.setIfInBounds_toArray, List.set_cons_zero, List.set_cons_succ]
  refine wpAnyG_take (i := 1) (v := ?_) [] (some 17) rfl rfl (by kernel_rfl) (by kernel_rfl) (by kernel_rfl) (by kernel_rfl) (by kernel_rfl) (by kernel_rfl) (by kernel_rfl) (fun _ _ _ h => h) (Or.inl ⟨by rfl, ?_⟩) hS ?_
  rotate_left
  focus (intro wS hSw; (try dsimp only at hSw); go_simp; (try with_reducible rfl))
  try simp only [Act.put, List.setIfInBounds_toArray, List.set_cons_zero, List.set_cons_succ]
  refine wpAnyG_take (i := 2) (v := ?_) [] (some 18) rfl rfl (by kernel_rfl) (by kernel_rfl) (by kernel_rfl) (by kernel_rfl) (by kernel_rfl) (by kernel_rfl) (by kernel_rfl) (fun _ _ _ h => h) (Or.inl ⟨by rfl, ?_⟩) hS ?_
  rotate_left
  focus (intro wS hSw; (try dsimp only at hSw); go_simp; (try with_reducible rfl))
  try simp only [Act.put, List.setIfInBounds_toArray, List.set_cons_zero, List.set_cons_succ]
  refine wpAnyG_take (i := 3) (v := ?_) [] (some 19) rfl rfl (by kernel_rfl) (by kernel_rfl) (by kernel_rfl) (by kernel_rfl) (by kernel_rfl) (by kernel_rfl) (by kernel_rfl) (fun _ _ _ h => h) (Or.inl ⟨by rfl, ?_⟩) hS ?_
  rotate_left
  focus (intro wS hSw; (try dsimp only at hSw); go_simp; (try with_reducible rfl))
  try simp only [Act.put, List.setIfInBounds_toArray, List.set_cons_zero, List.set_cons_succ]
  refine wpAnyG_take (i := 4) (v := ?_) [] (some 20) rfl rfl (by kernel_rfl) (by kernel_rfl) (by kernel_rfl) (by kernel_rfl) (by kernel_rfl) (by kernel_rfl) (by kernel_rfl) (fun _ _ _ h => h) (Or.inl ⟨by rfl, ?_⟩) hS ?_
  rotate_left
  focus (intro wS hSw; (try dsimp only at hSw); go_simp; (try with_reducible rfl))
  try simp only [Act.put, List.setIfInBounds_toArray, List.set_cons_zero, List.set_cons_succ]
  refine wpAnyG_take (i := 5) (v := ?_) [] (some 21) rfl rfl (by kernel_rfl) (by kernel_rfl) (by kernel_rfl) (by kernel_rfl) (by kernel_rfl) (by kernel_rfl) (by kernel_rfl) (fun _ _ _ h => h) (Or.inl ⟨by rfl, ?_⟩) hS ?_
  rotate_left
  focus (intro wS hSw; (try dsimp only at hSw); go_simp; (try with_reducible rfl))
  try simp only [Act.put, List.setIfInBounds_toArray, List.set_cons_zero, List.set_cons_succ]
  refine wpAnyG_take (i := 6) (v := ?_) [] (some 15) rfl rfl (by kernel_rfl) (by kernel_rfl) (by kernel_rfl) (by kernel_rfl) (by kernel_rfl) (by kernel_rfl) (by kernel_rfl) (fun _ _ _ h => h) (Or.inl ⟨by rfl, ?_⟩) hS ?_
  rotate_left
  focus (intro wS hSw; (try dsimp only at hSw); go_simp; (try with_reducible rfl))
  try simp only [Act.put, List.setIfInBounds_toArray, List.set_cons_zero, List.set_cons_succ]
  refine wpAnyG_take (i := 7) (v := ?_) [] (some 22) rfl rfl (by kernel_rfl) (by kernel_rfl) (by kernel_rfl) (by kernel_rfl) (by kernel_rfl) (by kernel_rfl) (by kernel_rfl) (fun _ _ _ h => h) (Or.inl ⟨by rfl, ?_⟩) hS ?_
  rotate_left
  focus (intro wS hSw; (try dsimp only at hSw); go_simp; (try with_reducible rfl))
  try simp only [Act.put, List.setIfInBounds_toArray, List.set_cons_zero, List.set_cons_succ]
  refine wpAnyG_take (i := 8) (v := ?_) [] (some 23) rfl rfl (by kernel_rfl) (by kernel_rfl) (by kernel_rfl) (by kernel_rfl) (by kernel_rfl) (by kernel_rfl) (by kernel_rfl) (fun _ _ _ h => h) (Or.inl ⟨by rfl, ?_⟩) hS ?_
  rotate_left
  focus (intro wS hSw; (try dsimp only at hSw); go_simp; (try with_reducible rfl))
  try simp only [Act.put, List.setIfInBounds_toArray, List.set_cons_zero, List.set_cons_succ]
  refine wpAnyG_one (i := 9) rfl (by kernel_rfl) ?_
  intro K' hK
  rw [if_pos (by rfl)]
  simp only [List.getElem_toArray, List.getElem_cons_succ, List.getElem_cons_zero]
  go_wp2_with fail
  refine hK.out _ _ (.inr ⟨(hA1.drew.alloc _).cell 0, (hA1.drew.alloc _).cell 1, (hX1.drew.alloc _).cell 0, (hX1.drew.alloc _).cell 1, (HLK _ (hM1.drew.alloc _)).out⟩) ?_
  clear hK hS
  refine wpAnyG_one (i := 10) rfl (by kernel_rfl) ?_
  intro K' hK
  rw [if_pos (by rfl)]
  simp only [List.getElem_toArray, List.getElem_cons_succ, List.getElem_cons_zero]
  go_wp2_with fail
  refine hK.out _ _ (.inr ⟨(hA1.drew.alloc _).cell 0, (hA1.drew.alloc _).cell 1, (hX1.drew.alloc _).cell 0, (hX1.drew.alloc _).cell 1, (HLK _ (hM1.drew.alloc _)).out⟩) ?_
  clear hK
  refine wpAnyG_one (i := 11) rfl (by kernel_rfl) ?_
  intro K' hK
  rw [if_pos (by rfl)]
  simp only [List.getElem_toArray, List.getElem_cons_succ, List.getElem_cons_zero]
  go_wp2_with fail
  refine hK.out _ _ (.inr ⟨(hA1.drew.alloc _).cell 0, (hA1.drew.alloc _).cell 1, (hX1.drew.alloc _).cell 0, (hX1.drew.alloc _).cell 1, (HLK _ (hM1.drew.alloc _)).out⟩) ?_
  refine wpAnyG_done (by kernel_rfl) ?_ _
  clear hK HLK
  have hp := HP.out
  have hP2 : PoolM ((w.alloc (.cells #[.int .i64 a, .int .i64 b] 40)).alloc (.cells #[.string ⟨#[]⟩, .int .i64 0] 64)).drew base x m v cap L h ms := ⟨(hX1.alloc _).drew, (hM1.alloc _).drew, ((hp.own.alloc _).alloc _).drew, hp.bx, hp.bm, hp.nd, hp.ok⟩
  have hA2 := (hA1.alloc (.cells #[.string ⟨#[]⟩, .int .i64 0] 64)).drew
  have hC2 := (Blk.new (w.alloc (.cells #[.int .i64 a, .int .i64 b] 40)) 64 #[.string ⟨#[]⟩, .int .i64 0] (n := w.heap.size + 1) (by simp)).drew
  have ht2 := (((Turned.refl S w).alloc (.cells #[.int .i64 a, .int .i64 b] 40)).alloc (.cells #[.string ⟨#[]⟩, .int .i64 0] 64)).drew
  have hgl : ∀ k, v.ownBlock = some k → k < w.heap.size := fun k hk => (hp.own.own_ge hk).2
  have hgb : ∀ k, v.ownBlock = some k → base ≤ k := fun k hk => (hp.own.own_ge hk).1
  have HG1 := Lib.hid hgl
  have HG2 := Lib.hid hgb
  have hz2 : ((w.alloc (.cells #[.int .i64 a, .int .i64 b] 40)).alloc (.cells #[.string ⟨#[]⟩, .int .i64 0] 64)).drew.heap.size = w.heap.size + 1 + 1 := by simp
  clear hp hgl hgb hA1 hX1 hM1
  try simp only [Act.put, List.setIfInBounds_toArray, List.set_cons_zero, List.set_cons_succ]
  go_upto_region 3 with fail
  generalize (((w.alloc (.cells #[.int .i64 a, .int .i64 b] 40)).alloc (.cells #[.string ⟨#[]⟩, .int .i64 0] 64)).drew) = w2 at *
  have x0 := hP2.blk.cell 0
  have x3 := hP2.blk.cell 3
  have x4 := hP2.blk.cell 4
  have xf3 := hP2.blk.frozen 3
  have xf4 := hP2.blk.frozen 4
  have hxl2 := hP2.blk.lt
  have hml2 := hP2.map.lt
  have HP2 := Lib.hid hP2
  have HZ2 := Lib.hid hz2
  have hzg : w.heap.size + 1 < w2.heap.size := by omega
  clear hP2 hz2
  first
    | (have hN := (HP.out : PoolM w base x m v cap L h ms)
       clear hN
       go_wp2_with fail
       go_ret3
       have hp := HP2.out
       exact ⟨rfl, ⟨v, ⟨(hp.blk.set_ 4 _).conv rfl, hp.map.far (p := ⟨x, 4, none⟩) (fun e => blk_map_ne hp.blk hp.map e.symm) _, hp.own.far (p := ⟨x, 4, none⟩) (hp.own.ne_blk hp.blk (by decide)) _, hp.bx, hp.bm, hp.nd, hp.ok⟩, HFT.out.next (by simp [World.setCell]; omega) HFT.out.own⟩, ht2.setCell (p := ⟨x, 4, none⟩) (fun _ => HFT.out.x) _⟩)
    | (have a0 := hA2.cell 0
       have a1 := hA2.cell 1
       have b0 := hC2.cell 0
       have b1 := hC2.cell 1
       have n1 : ¬ x = w.heap.size := by omega
       have n2 : ¬ w.heap.size = x := by omega
       have n3 : ¬ x = w.heap.size + 1 := by omega
       have n4 : ¬ w.heap.size + 1 = x := by omega
       go_wp2_with fail
       have hp := HP2.out
       have hP3 : PoolM (w2.setCell ⟨x, 3, none⟩ (.int .i64 (h + 1))) base x m v cap L (h + 1) ms := ⟨(hp.blk.set_ 3 _).conv rfl, hp.map.far (p := ⟨x, 3, none⟩) (fun e => blk_map_ne hp.blk hp.map e.symm) _, hp.own.far (p := ⟨x, 3, none⟩) (hp.own.ne_blk hp.blk (by decide)) _, hp.bx, hp.bm, hp.nd, hp.ok⟩
       refine (use_any x m base v cap (h + 1) ms L a b ⟨#[]⟩ 0 _ hP3 hsmall hok (by simp [World.setCell]; omega)).mono ?_
       rintro e w3 ⟨rfl, v3, hp3, hv3, ht3⟩
       have hC3 := (hC2.far (p := ⟨x, 3, none⟩) n4 (.int .i64 (h + 1))).turned ht3 (fun hk => hk.elim (fun e => n4 e) (fun hk => hk.elim (fun e => by omega) (fun e => by have := HG1.out _ e; omega)))
       have hbx := hp.bx
       have hbm := hp.bm
       have ht4 : Turned S w w3 := (ht2.setCell (p := ⟨x, 3, none⟩) (fun _ => HFT.out.x) _).next ht3 (fun k _ hk => HFT.out.all hk)
       have hz3 := ht4.size
       have HF3 := Lib.hid (HFT.out.next (w' := w3) (v' := v3) hz3 (fun k hk => (hv3 k hk).elim (fun e => HFT.out.own k e) (fun e => HFT.out.new k (by simp [World.setCell] at e; omega))))
       clear hv3
       have HP3 := Lib.hid hp3
       clear hp hP3 hp3 a0 a1 b0 b1 x0 x3 x4 xf3 xf4
       have b0 := hC3.cell 0
       have b1 := hC3.cell 1
       go_wp2_with fail
       go_quiet (fail)
       go_wp2_with fail
       go_ret3
       have hp := HP3.out
       exact ⟨rfl, ⟨v3, ⟨hp.blk.drewN _, hp.map.drewN _, hp.own.drewN _, hp.bx, hp.bm, hp.nd, hp.ok⟩, HF3.out.next (by simp [World.drewN]) HF3.out.own⟩, ht4.drewN _⟩)
set_option maxRecDepth 100000 in
set_option maxHeartbeats 4000000 in
theorem get_some (x m base : Nat) (v : Value) (cap h ms : Int) (L : List Pg) (a b : Int) (s : ByteArray) (u : Int) (w : World) (S : Nat → Prop) (hp : PoolM w base x m v cap L h ms) (hF : Foot S w x m v) (hsmall : L.length ≤ 50000) (hbw : base ≤ w.heap.size) (hok : okPlace (a, b)) (hbd : 0 ≤ h ∧ h ≤ 1000000) (hl : look L (a, b) = some (s, u)) :
    Calls Try.prog 17 #[.pointer (some ⟨x, 0, none⟩), .int .i64 a, .int .i64 b] w fun e w' => e = .returned (.tuple #[.string s, .int .i64 u, .bool true]) ∧ (∃ v', PoolM w' base x m v' cap (rmv L (a, b) ++ [((a, b), (s, u))]) (h + 1) ms ∧ Foot S w' x m v') ∧ Turned S w w' := by
  obtain ⟨hbd0, hbd1⟩ := hbd
  have hxl := hp.blk.lt
  have hml := hp.map.lt
  have hA1 := (Blk.new w 40 #[.int .i64 a, .int .i64 b] rfl)
  have hX1 := hp.blk.alloc (.cells #[.int .i64 a, .int .i64 b] 40)
  have hM1 := hp.map.alloc (.cells #[.int .i64 a, .int .i64 b] 40)
  have HLK := fun W hm => Lib.hid (lookup_some (W := W) (m := m) (L := L) hm hok s u hl)
  have HP := Lib.hid hp
  have HFT := Lib.hid hF
  clear hF
  have HL := Lib.hid hl
  clear hp hl
  go_enter Try.func17, Try.ntmps17
  go_wp2_with fail
  have hS : (fun w' : World => w'.cell? ⟨w.heap.size, 0, none⟩ = some (.int .i64 a) ∧ w'.cell? ⟨w.heap.size, 1, none⟩ = some (.int .i64 b) ∧ w'.cell? ⟨x, 0, none⟩ = some (.int .i64 cap) ∧ w'.cell? ⟨x, 1, none⟩ = some (.map (some m)) ∧ (Instr.lookup 59 (.map (some m)) (.agg #[.int .i64 a, .int .i64 b]) true).run Try.prog w' = .ok (.tuple #[.agg #[.string s, .int .i64 u], .bool true]) w') (w.alloc (.cells #[.int .i64 a, .int .i64 b] 40)).drew := ⟨hA1.cell 0, hA1.cell 1, hX1.cell 0, hX1.cell 1, (HLK _ hM1.drew).out⟩
  refine wp_region_G [] (fun w' : World => w'.cell? ⟨w.heap.size, 0, none⟩ = some (.int .i64 a) ∧ w'.cell? ⟨w.heap.size, 1, none⟩ = some (.int .i64 b) ∧ w'.cell? ⟨x, 0, none⟩ = some (.int .i64 cap) ∧ w'.cell? ⟨x, 1, none⟩ = some (.map (some m)) ∧ (Instr.lookup 59 (.map (some m)) (.agg #[.int .i64 a, .int .i64 b]) true).run Try.prog w' = .ok (.tuple #[.agg #[.string s, .int .i64 u], .bool true]) w') (by kernel_rfl) ?_
  refine wpAnyG_take (i := 0) (v := ?_) [] (some 16) rfl rfl (by kernel_rfl) (by kernel_rfl) (by kernel_rfl) (by kernel_rfl) (by kernel_rfl) (by kernel_rfl) (by kernel_rfl) (fun _ _ _ h => h) (Or.inl ⟨by rfl, ?_⟩) hS ?_
  rotate_left
  focus (intro wS hSw; (try dsimp only at hSw); go_simp; (try with_reducible rfl))
  try simp only [Act.put, List.setIfInBounds_toArray, List.set_cons_zero, List.set_cons_succ]
  refine wpAnyG_take (i := 1) (v := ?_) [] (some 17) rfl rfl (by kernel_rfl) (by kernel_rfl) (by kernel_rfl) (by kernel_rfl) (by kernel_rfl) (by kernel_rfl) (by kernel_rfl) (fun _ _ _ h => h) (Or.inl ⟨by rfl, ?_⟩) hS ?_
  rotate_left
  focus (intro wS hSw; (try dsimp only at hSw); go_simp; (try with_reducible rfl))
  try simp only [Act.put, List.setIfInBounds_toArray, List.set_cons_zero, List.set_cons_succ]
  refine wpAnyG_take (i := 2) (v := ?_) [] (some 18) rfl rfl (by kernel_rfl) (by kernel_rfl) (by kernel_rfl) (by kernel_rfl) (by kernel_rfl) (by kernel_rfl) (by kernel_rfl) (fun _ _ _ h => h) (Or.inl ⟨by rfl, ?_⟩) hS ?_
  rotate_left
  focus (intro wS hSw; (try dsimp only at hSw); go_simp; (try with_reducible rfl))
  try simp only [Act.put, List.setIfInBounds_toArray, List.set_cons_zero, List.set_cons_succ]
  refine wpAnyG_take (i := 3) (v := ?_) [] (some 19) rfl rfl (by kernel_rfl) (by kernel_rfl) (by kernel_rfl) (by kernel_rfl) (by kernel_rfl) (by kernel_rfl) (by kernel_rfl) (fun _ _ _ h => h) (Or.inl ⟨by rfl, ?_⟩) hS ?_
  rotate_left
  focus (intro wS hSw; (try dsimp only at hSw); go_simp; (try with_reducible rfl))
  try simp only [Act.put, List.setIfInBounds_toArray, List.set_cons_zero, List.set_cons_succ]
  refine wpAnyG_take (i := 4) (v := ?_) [] (some 20) rfl rfl (by kernel_rfl) (by kernel_rfl) (by kernel_rfl) (by kernel_rfl) (by kernel_rfl) (by kernel_rfl) (by kernel_rfl) (fun _ _ _ h => h) (Or.inl ⟨by rfl, ?_⟩) hS ?_
  rotate_left
  focus (intro wS hSw; (try dsimp only at hSw); go_simp; (try with_reducible rfl))
  try simp only [Act.put, List.setIfInBounds_toArray, List.set_cons_zero, List.set_cons_succ]
  refine wpAnyG_take (i := 5) (v := ?_) [] (some 21) rfl rfl (by kernel_rfl) (by kernel_rfl) (by kernel_rfl) (by kernel_rfl) (by kernel_rfl) (by kernel_rfl) (by kernel_rfl) (fun _ _ _ h => h) (Or.inl ⟨by rfl, ?_⟩) hS ?_
  rotate_left
  focus (intro wS hSw; (try dsimp only at hSw); go_simp; (try with_reducible rfl))
  try simp only [Act.put, List.setIfInBounds_toArray, List.set_cons_zero, List.set_cons_succ]
  refine wpAnyG_take (i := 6) (v := ?_) [] (some 15) rfl rfl (by kernel_rfl) (by kernel_rfl) (by kernel_rfl) (by kernel_rfl) (by kernel_rfl) (by kernel_rfl) (by kernel_rfl) (fun _ _ _ h => h) (Or.inl ⟨by rfl, ?_⟩) hS ?_
  rotate_left
  focus (intro wS hSw; (try dsimp only at hSw); go_simp; (try with_reducible rfl))
  try simp only [Act.put, List.setIfInBounds_toArray, List.set_cons_zero, List.set_cons_succ]
  refine wpAnyG_take (i := 7) (v := ?_) [] (some 22) rfl rfl (by kernel_rfl) (by kernel_rfl) (by kernel_rfl) (by kernel_rfl) (by kernel_rfl) (by kernel_rfl) (by kernel_rfl) (fun _ _ _ h => h) (Or.inl ⟨by rfl, ?_⟩) hS ?_
  rotate_left
  focus (intro wS hSw; (try dsimp only at hSw); go_simp; (try with_reducible rfl))
  try simp only [Act.put, List.setIfInBounds_toArray, List.set_cons_zero, List.set_cons_succ]
  refine wpAnyG_take (i := 8) (v := ?_) [] (some 23) rfl rfl (by kernel_rfl) (by kernel_rfl) (by kernel_rfl) (by kernel_rfl) (by kernel_rfl) (by kernel_rfl) (by kernel_rfl) (fun _ _ _ h => h) (Or.inl ⟨by rfl, ?_⟩) hS ?_
  rotate_left
  focus (intro wS hSw; (try dsimp only at hSw); go_simp; (try with_reducible rfl))
  try simp only [Act.put, List.setIfInBounds_toArray, List.set_cons_zero, List.set_cons_succ]
  refine wpAnyG_one (i := 9) rfl (by kernel_rfl) ?_
  intro K' hK
  rw [if_pos (by rfl)]
  simp only [List.getElem_toArray, List.getElem_cons_succ, List.getElem_cons_zero]
  go_wp2_with fail
  refine hK.out _ _ (.inr ⟨(hA1.drew.alloc _).cell 0, (hA1.drew.alloc _).cell 1, (hX1.drew.alloc _).cell 0, (hX1.drew.alloc _).cell 1, (HLK _ (hM1.drew.alloc _)).out⟩) ?_
  clear hK hS
  refine wpAnyG_one (i := 10) rfl (by kernel_rfl) ?_
  intro K' hK
  rw [if_pos (by rfl)]
  simp only [List.getElem_toArray, List.getElem_cons_succ, List.getElem_cons_zero]
  go_wp2_with fail
  refine hK.out _ _ (.inr ⟨(hA1.drew.alloc _).cell 0, (hA1.drew.alloc _).cell 1, (hX1.drew.alloc _).cell 0, (hX1.drew.alloc _).cell 1, (HLK _ (hM1.drew.alloc _)).out⟩) ?_
  clear hK
  refine wpAnyG_one (i := 11) rfl (by kernel_rfl) ?_
  intro K' hK
  rw [if_pos (by rfl)]
  simp only [List.getElem_toArray, List.getElem_cons_succ, List.getElem_cons_zero]
  go_wp2_with fail
  refine hK.out _ _ (.inr ⟨(hA1.drew.alloc _).cell 0, (hA1.drew.alloc _).cell 1, (hX1.drew.alloc _).cell 0, (hX1.drew.alloc _).cell 1, (HLK _ (hM1.drew.alloc _)).out⟩) ?_
  refine wpAnyG_done (by kernel_rfl) ?_ _
  clear hK HLK
  have hp := HP.out
  have hP2 : PoolM ((w.alloc (.cells #[.int .i64 a, .int .i64 b] 40)).alloc (.cells #[.string s, .int .i64 u] 64)).drew base x m v cap L h ms := ⟨(hX1.alloc _).drew, (hM1.alloc _).drew, ((hp.own.alloc _).alloc _).drew, hp.bx, hp.bm, hp.nd, hp.ok⟩
  have hA2 := (hA1.alloc (.cells #[.string s, .int .i64 u] 64)).drew
  have hC2 := (Blk.new (w.alloc (.cells #[.int .i64 a, .int .i64 b] 40)) 64 #[.string s, .int .i64 u] (n := w.heap.size + 1) (by simp)).drew
  have ht2 := (((Turned.refl S w).alloc (.cells #[.int .i64 a, .int .i64 b] 40)).alloc (.cells #[.string s, .int .i64 u] 64)).drew
  have hgl : ∀ k, v.ownBlock = some k → k < w.heap.size := fun k hk => (hp.own.own_ge hk).2
  have hgb : ∀ k, v.ownBlock = some k → base ≤ k := fun k hk => (hp.own.own_ge hk).1
  have HG1 := Lib.hid hgl
  have HG2 := Lib.hid hgb
  have hz2 : ((w.alloc (.cells #[.int .i64 a, .int .i64 b] 40)).alloc (.cells #[.string s, .int .i64 u] 64)).drew.heap.size = w.heap.size + 1 + 1 := by simp
  clear hp hgl hgb hA1 hX1 hM1
  try simp only [Act.put, List.setIfInBounds_toArray, List.set_cons_zero, List.set_cons_succ]
  go_upto_region 3 with fail
  generalize (((w.alloc (.cells #[.int .i64 a, .int .i64 b] 40)).alloc (.cells #[.string s, .int .i64 u] 64)).drew) = w2 at *
  have x0 := hP2.blk.cell 0
  have x3 := hP2.blk.cell 3
  have x4 := hP2.blk.cell 4
  have xf3 := hP2.blk.frozen 3
  have xf4 := hP2.blk.frozen 4
  have hxl2 := hP2.blk.lt
  have hml2 := hP2.map.lt
  have HP2 := Lib.hid hP2
  have HZ2 := Lib.hid hz2
  have hzg : w.heap.size + 1 < w2.heap.size := by omega
  clear hP2 hz2
  first
    | (have hN := (HP.out : PoolM w base x m v cap L h ms)
       clear hN
       go_wp2_with fail
       go_ret3
       have hp := HP2.out
       exact ⟨rfl, ⟨v, ⟨(hp.blk.set_ 4 _).conv rfl, hp.map.far (p := ⟨x, 4, none⟩) (fun e => blk_map_ne hp.blk hp.map e.symm) _, hp.own.far (p := ⟨x, 4, none⟩) (hp.own.ne_blk hp.blk (by decide)) _, hp.bx, hp.bm, hp.nd, hp.ok⟩, HFT.out.next (by simp [World.setCell]; omega) HFT.out.own⟩, ht2.setCell (p := ⟨x, 4, none⟩) (fun _ => HFT.out.x) _⟩)
    | (have a0 := hA2.cell 0
       have a1 := hA2.cell 1
       have b0 := hC2.cell 0
       have b1 := hC2.cell 1
       have n1 : ¬ x = w.heap.size := by omega
       have n2 : ¬ w.heap.size = x := by omega
       have n3 : ¬ x = w.heap.size + 1 := by omega
       have n4 : ¬ w.heap.size + 1 = x := by omega
       go_wp2_with fail
       have hp := HP2.out
       have hP3 : PoolM (w2.setCell ⟨x, 3, none⟩ (.int .i64 (h + 1))) base x m v cap L (h + 1) ms := ⟨(hp.blk.set_ 3 _).conv rfl, hp.map.far (p := ⟨x, 3, none⟩) (fun e => blk_map_ne hp.blk hp.map e.symm) _, hp.own.far (p := ⟨x, 3, none⟩) (hp.own.ne_blk hp.blk (by decide)) _, hp.bx, hp.bm, hp.nd, hp.ok⟩
       refine (use_any x m base v cap (h + 1) ms L a b s u _ hP3 hsmall hok (by simp [World.setCell]; omega)).mono ?_
       rintro e w3 ⟨rfl, v3, hp3, hv3, ht3⟩
       have hC3 := (hC2.far (p := ⟨x, 3, none⟩) n4 (.int .i64 (h + 1))).turned ht3 (fun hk => hk.elim (fun e => n4 e) (fun hk => hk.elim (fun e => by omega) (fun e => by have := HG1.out _ e; omega)))
       have hbx := hp.bx
       have hbm := hp.bm
       have ht4 : Turned S w w3 := (ht2.setCell (p := ⟨x, 3, none⟩) (fun _ => HFT.out.x) _).next ht3 (fun k _ hk => HFT.out.all hk)
       have hz3 := ht4.size
       have HF3 := Lib.hid (HFT.out.next (w' := w3) (v' := v3) hz3 (fun k hk => (hv3 k hk).elim (fun e => HFT.out.own k e) (fun e => HFT.out.new k (by simp [World.setCell] at e; omega))))
       clear hv3
       have HP3 := Lib.hid hp3
       clear hp hP3 hp3 a0 a1 b0 b1 x0 x3 x4 xf3 xf4
       have b0 := hC3.cell 0
       have b1 := hC3.cell 1
       go_wp2_with fail
       go_quiet (fail)
       go_wp2_with fail
       go_ret3
       have hp := HP3.out
       exact ⟨rfl, ⟨v3, ⟨hp.blk.drewN _, hp.map.drewN _, hp.own.drewN _, hp.bx, hp.bm, hp.nd, hp.ok⟩, HF3.out.next (by simp [World.drewN]) HF3.out.own⟩, ht4.drewN _⟩)
end Go.Proofs.Ytfmhiocigoejjaa
