/- Put, Invalidate, Drop. -/
import Derived.Test.YtfmhiocigoejjaaBufG
namespace Go.Proofs.Ytfmhiocigoejjaa
set_option linter.unusedVariables false
set_option linter.unusedSimpArgs false
set_option linter.unusedSectionVars false
open Go.RowKit
open Go.Maps (Keyed)
/-- The pages when one has been put. -/
def putS (cap : Int) (L : List Pg) (p : Place) (c : ByteArray × Int) : List Pg := if cap < ((rmv L p).length + 1 : Nat) then (rmv L p ++ [(p, c)]).drop 1 else rmv L p ++ [(p, c)]
def invQ (L : List Pg) (p : Place) (v : Int) (y : Place) : Bool := decide (y = p) && (match look L p with | some c => decide (c.2 < v) | none => false)
def invS (L : List Pg) (p : Place) (v : Int) : List Pg := L.filter fun y => !invQ L p v y.1
def dropS (L : List Pg) (id : Int) : List Pg := L.filter fun y => !decide (y.1.1 = id)
theorem filter_first (y : Pg) (L : List Pg) (hnd : (keys (y :: L)).Nodup) : ((y :: L).filter fun z => !decide (z.1 = y.1)) = L := by
  rw [List.filter_cons_of_neg (by simp)]
  refine List.filter_eq_self.2 fun z hz => ?_
  have hn : y.1 ∉ keys L := (List.nodup_cons.1 hnd).1
  have : z.1 ≠ y.1 := fun e => hn (by rw [← e]; exact List.mem_map_of_mem hz)
  simp [this]
set_option maxRecDepth 100000 in
set_option maxHeartbeats 4000000 in
theorem drop_any (x m base : Nat) (v : Value) (cap h ms : Int) (L : List Pg) (id : Int) (w : World) (S : Nat → Prop) (hp : PoolM w base x m v cap L h ms) (hF : Foot S w x m v) (hsmall : L.length ≤ 50000) (hbw : base ≤ w.heap.size) :
    Calls Try.prog 20 #[.pointer (some ⟨x, 0, none⟩), .int .i64 id] w fun e w' => e = .returned (.int .i64 ((L.length : Int) - ((dropS L id).length : Int))) ∧ (∃ v', PoolM w' base x m v' cap (dropS L id) h ms ∧ Foot S w' x m v') ∧ Turned S w w' := by
  have HFT := Lib.hid hF
  clear hF
  have hgl : ∀ k, v.ownBlock = some k → base ≤ k ∧ k < w.heap.size := fun k hk => hp.own.own_ge hk
  have hxl := hp.blk.lt
  have hml := hp.map.lt
  have hP1 : PoolM (w.alloc (.cells #[.int .i64 id] 3)) base x m v cap L h ms := ⟨hp.blk.alloc _, hp.map.alloc _, hp.own.alloc _, hp.bx, hp.bm, hp.nd, hp.ok⟩
  have HF := Lib.hid (forget_drop x m v (.pointer (some ⟨w.heap.size, 0, none⟩)) cap h ms L base (fun p => decide (p.1 = id)) (fun W => Blk W w.heap.size 3 #[.int .i64 id]) _ hP1 (by omega) (Blk.new w _ _ rfl)
    (fun W W' h1 h2 => h1.turned h2 (fun hk => hk.elim (fun e => by omega) (fun e => by have := hgl _ e; omega)))
    (fun j hj W F h1 _ _ _ => drop1_any _ _ id w.heap.size W h1))
  have hbx := hp.bx
  have hbm := hp.bm
  have ht0 := (Turned.refl S w).alloc (.cells #[.int .i64 id] 3)
  clear hP1 hp
  go_enter Try.func20, Try.ntmps20
  go_wp2_with fail
  refine HF.out.mono ?_
  rintro e w1 ⟨v1, rfl, hp1, hv1, ht1⟩
  have HP1 := Lib.hid hp1
  have ht2 := ht0.next ht1 (fun k _ hk => HFT.out.all hk)
  have HF1 := Lib.hid (HFT.out.next (w' := w1) (v' := v1) ht2.size (fun k hk => HFT.out.own k (by rw [← hv1]; exact hk)))
  clear hp1 hv1 ht1
  go_wp2_with fail
  go_ret
  exact ⟨rfl, ⟨v1, HP1.out, HF1.out⟩, ht2⟩
set_option maxRecDepth 100000 in
set_option maxHeartbeats 4000000 in
theorem inv_any (x m base : Nat) (v : Value) (cap h ms : Int) (L : List Pg) (a b ver : Int) (w : World) (S : Nat → Prop) (hp : PoolM w base x m v cap L h ms) (hF : Foot S w x m v) (hsmall : L.length ≤ 50000) (hbw : base ≤ w.heap.size) :
    Calls Try.prog 19 #[.pointer (some ⟨x, 0, none⟩), .int .i64 a, .int .i64 b, .int .i64 ver] w fun e w' => e = .returned (.bool (decide ((0 : Int) < (L.length : Int) - ((invS L (a, b) ver).length : Int)))) ∧ (∃ v', PoolM w' base x m v' cap (invS L (a, b) ver) h ms ∧ Foot S w' x m v') ∧ Turned S w w' := by
  have HFT := Lib.hid hF
  clear hF
  have hgl : ∀ k, v.ownBlock = some k → base ≤ k ∧ k < w.heap.size := fun k hk => hp.own.own_ge hk
  have hxl := hp.blk.lt
  have hml := hp.map.lt
  have hnm := own_map_ne hp.own hp.map
  have hP1 : PoolM (((w.alloc (.cells #[.pointer (some ⟨x, 0, none⟩)] 23)).alloc (.cells #[.int .i64 ver] 3)).alloc (.cells #[.int .i64 a, .int .i64 b] 40)) base x m v cap L h ms := ⟨((hp.blk.alloc _).alloc _).alloc _, ((hp.map.alloc _).alloc _).alloc _, ((hp.own.alloc _).alloc _).alloc _, hp.bx, hp.bm, hp.nd, hp.ok⟩
  have hB0 := (((Blk.new w 23 #[.pointer (some ⟨x, 0, none⟩)] rfl).alloc (.cells #[.int .i64 ver] 3)).alloc (.cells #[.int .i64 a, .int .i64 b] 40))
  have hB1 := (Blk.new (w.alloc (.cells #[.pointer (some ⟨x, 0, none⟩)] 23)) 3 #[.int .i64 ver] (n := w.heap.size + 1) (by simp)).alloc (.cells #[.int .i64 a, .int .i64 b] 40)
  have hB2 := Blk.new ((w.alloc (.cells #[.pointer (some ⟨x, 0, none⟩)] 23)).alloc (.cells #[.int .i64 ver] 3)) 40 #[.int .i64 a, .int .i64 b] (n := w.heap.size + 1 + 1) (by simp)
  have HF := Lib.hid (forget_inv x m v (.pointer (some ⟨w.heap.size + 1 + 1, 0, none⟩)) (.pointer (some ⟨w.heap.size, 0, none⟩)) (.pointer (some ⟨w.heap.size + 1, 0, none⟩)) cap h ms L base (invQ L (a, b) ver)
    (fun W => Blk W (w.heap.size + 1 + 1) 40 #[.int .i64 a, .int .i64 b] ∧ Blk W w.heap.size 23 #[.pointer (some ⟨x, 0, none⟩)] ∧ Blk W (w.heap.size + 1) 3 #[.int .i64 ver]) _ hP1 (by omega) ⟨hB2, hB0, hB1⟩
    (fun W W' ⟨h1, h2, h3⟩ ht => by
      have hne : ∀ k, w.heap.size ≤ k → ¬ (k = m ∨ v.ownBlock = some k) := fun k hk hh => hh.elim (fun e => by omega) (fun e => by have := hgl _ e; omega)
      exact ⟨h1.turned ht (hne _ (by omega)), h2.turned ht (hne _ (by omega)), h3.turned ht (hne _ (by omega))⟩)
    (fun j hj W F ⟨h1, h2, h3⟩ hx hm hF => inv1_any _ _ a b ver (invQ L (a, b) ver (keys L)[j]) _ _ _ x m _ _ _ _ F W h1 h2 h3 hx hm (hp.ok _ (List.getElem_mem hj))
      (fun he => by
        have he' : (keys L)[j] = (a, b) := he
        obtain ⟨c, hc⟩ := look_mem L (keys L)[j] (List.getElem_mem hj)
        refine ⟨c.1, c.2, ?_, ?_⟩
        · show F (keys L)[j] = _
          rw [hF]; unfold FOf; rw [hc]; rfl
        · unfold invQ
          rw [he'] at hc ⊢
          rw [hc]
          simp)
      (fun hne => by
        have : ¬ (keys L)[j] = (a, b) := hne
        unfold invQ
        simp [this])))
  have hbx := hp.bx
  have hbm := hp.bm
  have ht0 := (((Turned.refl S w).alloc (.cells #[.pointer (some ⟨x, 0, none⟩)] 23)).alloc (.cells #[.int .i64 ver] 3)).alloc (.cells #[.int .i64 a, .int .i64 b] 40)
  have hfl := List.length_filter_le (fun y : Pg => !invQ L (a, b) ver y.1) L
  have HI := Lib.hid (show (L.filter fun y => !invQ L (a, b) ver y.1) = invS L (a, b) ver from rfl)
  have y0 := hB0.cell 0
  clear hP1 hp
  go_enter Try.func19, Try.ntmps19
  go_wp2_with fail
  refine HF.out.mono ?_
  rintro e w1 ⟨v1, rfl, hp1, hv1, ht1⟩
  rw [HI.out] at hp1 hfl ⊢
  have HP1 := Lib.hid hp1
  have ht2 := ht0.next ht1 (fun k _ hk => HFT.out.all hk)
  have HF1 := Lib.hid (HFT.out.next (w' := w1) (v' := v1) ht2.size (fun k hk => HFT.out.own k (by rw [← hv1]; exact hk)))
  clear hp1 hv1 ht1 HI
  obtain ⟨n', hn'⟩ : ∃ n', (invS L (a, b) ver).length = n' := ⟨_, rfl⟩
  have HN' := Lib.hid hn'
  rw [hn'] at hfl ⊢
  clear hn'
  rcases Nat.lt_or_ge n' L.length with hlt | hge
  · have hb : decide ((0 : Int) < (L.length : Int) - (n' : Int)) = true := by rw [decide_eq_true_eq]; omega
    have hb' := hb
    go_wp2_with fail
    go_ret
    exact ⟨ret_bool (by rw [HN'.out, hb']; (try rw [decide_eq_true_eq]); (try rw [decide_eq_false_iff_not]); (try omega)), ⟨v1, HP1.out, HF1.out⟩, ht2⟩
  · have hb : decide ((0 : Int) < (L.length : Int) - (n' : Int)) = false := by rw [decide_eq_false_iff_not]; omega
    have hb' := hb
    go_wp2_with fail
    go_ret
    exact ⟨ret_bool (by rw [HN'.out, hb']; (try rw [decide_eq_true_eq]); (try rw [decide_eq_false_iff_not]); (try omega)), ⟨v1, HP1.out, HF1.out⟩, ht2⟩
set_option maxRecDepth 100000 in
set_option maxHeartbeats 4000000 in
theorem put_any (x m base : Nat) (v : Value) (cap h ms : Int) (L : List Pg) (a b : Int) (s : ByteArray) (u : Int) (w : World) (S : Nat → Prop) (hp : PoolM w base x m v cap L h ms) (hF : Foot S w x m v) (hsmall : L.length ≤ 40000) (hcap : 1 ≤ cap ∧ cap ≤ 4096) (hbw : base ≤ w.heap.size) (hok : okPlace (a, b)) :
    Calls Try.prog 23 #[.pointer (some ⟨x, 0, none⟩), .int .i64 a, .int .i64 b, .string s, .int .i64 u] w fun e w' => e = .returned (.tuple #[]) ∧ (∃ v', PoolM w' base x m v' cap (putS cap L (a, b) (s, u)) h ms ∧ Foot S w' x m v') ∧ Turned S w w' := by
  have HFT := Lib.hid hF
  clear hF
  have hgl : ∀ k, v.ownBlock = some k → base ≤ k ∧ k < w.heap.size := fun k hk => hp.own.own_ge hk
  have hxl := hp.blk.lt
  have hbx := hp.bx
  have hbm := hp.bm
  have HU := Lib.hid (use_any x m base v cap h ms L a b s u w hp (by omega) hok hbw)
  have hrl := rmv_len L (a, b)
  obtain ⟨hc0, hc1⟩ := hcap
  have HPU := Lib.hid (show putS cap L (a, b) (s, u) = _ from rfl)
  obtain ⟨n, hn⟩ : ∃ n, (rmv L (a, b)).length = n := ⟨_, rfl⟩
  have HN := Lib.hid hn
  rw [hn] at hrl
  clear hp hn
  go_enter Try.func23, Try.ntmps23
  go_wp2_with fail
  refine HU.out.mono ?_
  rintro e w1 ⟨rfl, v1, hp1, hv1, ht1⟩
  have ht1' : Turned S w w1 := ht1.mono (fun k _ hk => HFT.out.all hk)
  have HF1 := Lib.hid (HFT.out.next (w' := w1) (v' := v1) ht1.size (fun k hk => (hv1 k hk).elim (fun e => HFT.out.own k e) (fun e => HFT.out.new k e)))
  clear hv1
  have hz1 := ht1.size
  clear ht1 HU
  have HLL := Lib.hid (show (rmv L (a, b) ++ [((a, b), (s, u))]).length = n + 1 from by rw [List.length_append, HN.out]; rfl)
  obtain ⟨L1, hL1⟩ : ∃ L1, rmv L (a, b) ++ [((a, b), (s, u))] = L1 := ⟨_, rfl⟩
  have HL1 := Lib.hid hL1
  have HLN := Lib.hid (show L1.length = n + 1 from by rw [← hL1]; exact HLL.out)
  rw [hL1] at hp1
  clear hL1
  rcases hp1.own.form with ⟨hv, h0⟩ | ⟨g, gc, hv, hbg, hgl1, hgc, hgcm⟩
  · exfalso
    have := congrArg List.length h0
    rw [placeC_len, keys_len, HLN.out] at this
    simp at this
  · rw [placeC_len, keys_len, HLN.out] at hv hgc
    subst hv
    obtain ⟨y, L2, hy⟩ : ∃ y L2, L1 = y :: L2 := by
      cases hl : L1 with
      | nil => have := HLN.out; rw [hl] at this; simp at this
      | cons y L2 => exact ⟨y, L2, rfl⟩
    have HY := Lib.hid hy
    have hk0 : (keys L1)[0]'(by rw [keys_len, HLN.out]; omega) = y.1 := by
      have : keys L1 = y.1 :: keys L2 := by rw [hy]; rfl
      simp only [this]
      rfl
    obtain ⟨c0, c1⟩ := own_place hp1.own (k := 0) (by rw [keys_len, HLN.out]; omega)
    rw [hk0] at c0 c1
    simp only [Nat.zero_mul, Nat.zero_add] at c0 c1
    have x0 := hp1.blk.cell 0
    have x2 := hp1.blk.cell 2
    have hxl1 := hp1.blk.lt
    have HP1 := Lib.hid hp1
    clear hp1 hy hk0
    obtain ⟨⟨ya, yb⟩, yc⟩ := y
    simp only at c0 c1
    by_cases hcn : cap < (n : Int) + 1
    · have HPS := Lib.hid (show putS cap L (a, b) (s, u) = L2 from by
        unfold putS
        rw [HN.out, if_pos (by omega), HL1.out, HY.out]
        rfl)
      clear HPU
      go_wp2_with fail
      go_quiet (fail)
      obtain ⟨w2, hw2⟩ : ∃ w2, w2 = w1.drewN nq := ⟨_, rfl⟩
      have hp2 : PoolM w2 base x m (.slice (some ⟨g, 0, none⟩) (n + 1) gc) cap L1 h ms := by
        have hp := HP1.out
        subst hw2
        exact ⟨hp.blk.drewN _, hp.map.drewN _, hp.own.drewN _, hp.bx, hp.bm, hp.nd, hp.ok⟩
      have ht2 : Turned S w w2 := by subst hw2; exact ht1'.drewN _
      rw [← hw2]
      clear hw2 c0 c1 x0 x2 hxl1
      obtain ⟨c0, c1⟩ := own_place hp2.own (k := 0) (by rw [keys_len, HLN.out]; omega)
      have hk0 : (keys L1)[0]'(by rw [keys_len, HLN.out]; omega) = (ya, yb) := by
        have : keys L1 = (ya, yb) :: keys L2 := by rw [HY.out]; rfl
        simp only [this]
        rfl
      rw [hk0] at c0 c1
      simp only [Nat.zero_mul, Nat.zero_add] at c0 c1
      have x0 := hp2.blk.cell 0
      have x2 := hp2.blk.cell 2
      have hxl2 := hp2.blk.lt
      have hml2 := hp2.map.lt
      have hgl2 := (hp2.own.own_ge (g := g) rfl).2
      have hP3 : PoolM (w2.alloc (.cells #[.int .i64 ya, .int .i64 yb] 40)) base x m (.slice (some ⟨g, 0, none⟩) (n + 1) gc) cap L1 h ms := ⟨hp2.blk.alloc _, hp2.map.alloc _, hp2.own.alloc _, hp2.bx, hp2.bm, hp2.nd, hp2.ok⟩
      have HF := Lib.hid (forget_put x m (.slice (some ⟨g, 0, none⟩) (n + 1) gc) (.pointer (some ⟨w2.heap.size, 0, none⟩)) cap h ms L1 base (fun p => decide (p = (ya, yb))) (fun W => Blk W w2.heap.size 40 #[.int .i64 ya, .int .i64 yb]) _ hP3 (by rw [HLN.out]; omega) (Blk.new w2 _ _ rfl)
        (fun W W' h1 h2 => h1.turned h2 (fun hk => hk.elim (fun e => by omega) (fun e => by simp [Value.ownBlock] at e; omega)))
        (fun j hj W F h1 _ _ _ => put1_any _ _ ya yb w2.heap.size W h1))
      have HFL := Lib.hid (show (L1.filter fun p => !decide (p.1 = (ya, yb))) = L2 from by
        rw [HY.out]
        exact filter_first ((ya, yb), yc) L2 (by rw [← HY.out]; exact hp2.nd))
      have hbg2 := hp2.bx
      clear hp2 hP3 hk0
      go_wp2_with fail
      refine HF.out.mono ?_
      rintro e w3 ⟨v3, rfl, hp3, hv3, ht3⟩
      rw [HFL.out] at hp3
      have HP3 := Lib.hid hp3
      have ht4 := (ht2.alloc (.cells #[.int .i64 ya, .int .i64 yb] 40)).next ht3 (fun k _ hk => HF1.out.all hk)
      have HF4 := Lib.hid (HFT.out.next (w' := w3) (v' := v3) ht4.size (fun k hk => HF1.out.own k (by rw [← hv3]; exact hk)))
      clear hp3 hv3 ht3
      go_wp2_with fail
      go_end0
      rw [HPS.out]
      exact ⟨rfl, ⟨v3, HP3.out, HF4.out⟩, ht4⟩
    · have HPS := Lib.hid (show putS cap L (a, b) (s, u) = L1 from by
        unfold putS
        rw [HN.out, if_neg (by omega), HL1.out])
      clear HPU
      go_wp2_with fail
      go_quiet (fail)
      go_wp2_with fail
      go_end0
      have hp := HP1.out
      rw [HPS.out]
      exact ⟨rfl, ⟨_, ⟨hp.blk.drewN _, hp.map.drewN _, hp.own.drewN _, hp.bx, hp.bm, hp.nd, hp.ok⟩, HF1.out.next (by simp [World.drewN]) HF1.out.own⟩, ht1'.drewN _⟩
end Go.Proofs.Ytfmhiocigoejjaa
