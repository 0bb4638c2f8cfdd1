/- Sequences of calls; BufferDrops. -/
import Derived.Test.YtfmhiocigoejjaaBufK
namespace Go.Proofs.Ytfmhiocigoejjaa
set_option linter.unusedVariables false
set_option linter.unusedSimpArgs false
set_option linter.unusedSectionVars false
open Go.RowKit
theorem PoolM.grew {w w' : World} {base x m : Nat} {v : Value} {cap h ms : Int} {L : List Pg} (hp : PoolM w base x m v cap L h ms) (g : Grew w w') : PoolM w' base x m v cap L h ms :=
  ⟨hp.blk.grew g, hp.map.grew g, hp.own.grew g, hp.bx, hp.bm, hp.nd, hp.ok⟩
theorem Foot.grew {S : Nat → Prop} {w w' : World} {x m : Nat} {v : Value} (h : Foot S w x m v) (g : Grew w w') : Foot S w' x m v := h.next g.size h.own
theorem Foot.apart {S : Nat → Prop} {w : World} {x m : Nat} {v : Value} (h : Foot S w x m v) (u : Value) (hu : ∀ k, u.ownBlock = some k → k < w.heap.size ∧ k ≠ x ∧ k ≠ m ∧ v.ownBlock ≠ some k) : Foot (fun k => S k ∧ u.ownBlock ≠ some k) w x m v :=
  ⟨⟨h.x, fun e => (hu _ e).2.1 rfl⟩, ⟨h.m, fun e => (hu _ e).2.2.1 rfl⟩, fun k hk => ⟨h.own k hk, fun e => (hu k e).2.2.2 hk⟩, fun k hk => ⟨h.new k hk, fun e => by have := (hu k e).1; omega⟩⟩
theorem dropS_idem (L : List Pg) (id : Int) : dropS (dropS L id) id = dropS L id := by
  unfold dropS; rw [List.filter_filter]; congr 1; funext y; simp
/-- The state behind the first k calls. -/
def runO (cap : Int) (l : List Opn) : Nat → St
  | 0 => ⟨[], 0, 0⟩
  | k + 1 => stepO cap (runO cap l k) (l[k]?.getD default)
theorem runO_succ (cap : Int) (l : List Opn) (k : Nat) (hk : k < l.length) : runO cap l (k + 1) = stepO cap (runO cap l k) l[k] := by
  rw [runO, List.getElem?_eq_getElem hk]; rfl
theorem runO_sound (cap : Int) (l : List Opn) (hc : 1 ≤ cap) : ∀ k, Sound cap (runO cap l k) k := by
  intro k
  induction k with
  | zero => exact ⟨by simp [runO]; omega, by simp [runO], by simp [runO], by simp [runO], by simp [runO]⟩
  | succ k ih => exact ih.step hc _
theorem fewO_len {l : List Opn} (h : fewO l = true) : l.length ≤ 60 := by
  unfold fewO at h
  rw [Bool.and_eq_true] at h
  simpa using h.2
set_option maxRecDepth 100000 in
set_option maxHeartbeats 4000000 in
theorem bufferDrops_any (c : Nat) (hc : c < 256) (A : Option Addr) (cc : Nat) (l : List Opn) (id : Int) (w : World) (hl : l.length ≤ 9223372036854775807) (hv : OpsAt w w.heap.size A l) :
    Calls Try.prog 7 #[.int .u8 (c : Int), .slice A l.length cc, .int .i64 id] w fun e w' => e = .returned (.bool true) ∧ Grew w w' := by
  have HV := Lib.hid hv
  clear hv
  cases hf : fewO l with
  | false =>
    have HFW := Lib.hid hf
    clear hf
    go_enter Try.func7, Try.ntmps7
    go_wp2_with fail
    refine (awake_any _).mono ?_
    rintro e w1 ⟨rfl, g1⟩
    go_wp2_with fail
    refine (few_any A cc l w1 _ (HV.out.hold (Nat.le_refl _) g1) hl).mono ?_
    rintro e w2 ⟨rfl, rfl⟩
    rw [HFW.out]
    go_wp2_with fail
    go_ret
    exact ⟨rfl, g1⟩
  | true =>
    have hl60 := fewO_len hf
    have HFW := Lib.hid hf
    clear hf
    go_enter Try.func7, Try.ntmps7
    go_wp2_with fail
    refine (awake_any _).mono ?_
    rintro e w1 ⟨rfl, g1⟩
    go_wp2_with fail
    refine (few_any A cc l w1 _ (HV.out.hold (Nat.le_refl _) g1) hl).mono ?_
    rintro e w2 ⟨rfl, rfl⟩
    rw [HFW.out]
    go_wp2_with fail
    refine (start_any c hc w1).mono ?_
    rintro e w2 ⟨x, m, n, hn, rfl, hp, g2⟩
    have hF := Foot.base hp g2.size
    have hn1 : 1 ≤ n ∧ n ≤ 8 := by omega
    obtain ⟨hn1, hn8⟩ := hn1
    have hT := g2.turned (fun k => w1.heap.size ≤ k)
    have HP := Lib.hid hp
    have HF := Lib.hid hF
    have HT := Lib.hid hT
    have HSD := Lib.hid (runO_sound (n : Int) l (by omega))
    clear hp hF hT g2 hn
    go_wp2_with fail
    go_loopg [31] l.length (fun gk i wr => ∃ v, ∃ k : Nat, k ≤ l.length ∧ gk = l.length - k ∧ i = .int .i64 k ∧ PoolM wr w1.heap.size x m v n (runO n l k).pages (runO n l k).hits (runO n l k).misses ∧ Foot (fun j => w1.heap.size ≤ j) wr x m v ∧ Turned (fun j => w1.heap.size ≤ j) w1 wr)
    case atStart => exact ⟨_, 0, by omega, by omega, rfl, HP.out, HF.out, HT.out⟩
    case round =>
      obtain ⟨v, k, hk, hgk, rfl, hp, hF, hT⟩ := hrel
      have HGK := Lib.hid hgk
      have HPk := Lib.hid hp
      have HFk := Lib.hid hF
      have HTk := Lib.hid hT
      clear hgk hp hF hT
      by_cases hlt : k < l.length
      · obtain ⟨b, off, rfl, hb, hok, c0, c1, c2, c3, c4⟩ := (HV.out.hold (Nat.le_refl _) (g1.trans HTk.out.toGrew)).at_ hlt
        obtain ⟨t, ht⟩ : ∃ t, t = l[k] := ⟨_, rfl⟩
        have HL := Lib.hid ht
        rw [← ht] at c0 c1 c2 c3 c4 hok
        have HOK := Lib.hid hok
        clear ht hok
        have hsz := HTk.out.size
        have HD := Lib.hid (do_any x m w1.heap.size v n (runO n l k) k t _ (fun j => w1.heap.size ≤ j) (HPk.out.grew ((Grew.refl wr).alloc (.cells #[.int .i64 t.kind, .int .i64 t.id, .int .i64 t.page, .int .i64 t.ver, .string t.data] 38))) (HFk.out.grew ((Grew.refl wr).alloc _)) (HSD.out k) (by omega) ⟨by omega, by omega⟩ (by simp; omega) HOK.out)
        go_wp2_with fail
        refine HD.out.mono ?_
        rintro e w3 ⟨rfl, ⟨v3, hp3, hF3⟩, hT3⟩
        have HP3 := Lib.hid hp3
        have HF3 := Lib.hid hF3
        have HT3 := Lib.hid hT3
        clear hp3 hF3 hT3 HD
        go_wp2_with fail
        go_roundg (l.length - (k + 1))
        case measure => rw [HGK.out]; omega
        case rel => exact ⟨v3, k + 1, by omega, by omega, by go_num, by rw [runO_succ _ _ _ hlt, ← HL.out]; exact HP3.out, HF3.out, (HTk.out.alloc _).trans HT3.out⟩
      · obtain ⟨wm, hwm⟩ : ∃ wm, wm = wr := ⟨_, rfl⟩
        subst hwm
        obtain ⟨s, hs⟩ : ∃ s, runO n l k = s := ⟨_, rfl⟩
        have hsd := HSD.out k
        have hp := HPk.out
        rw [hs] at hsd hp
        obtain ⟨L, h, ms⟩ := s
        simp only at hp
        have hL8 : L.length ≤ 8 := by have := hsd.1; simp only at this; omega
        have HPs := Lib.hid hp
        clear HPk HSD hs hsd hp
        have hsz := HTk.out.size
        go_wp2_with fail
        refine (places_any (HPs.out.grew ((Grew.refl wm).alloc _)) (by omega)).mono ?_
        rintro e w4 ⟨pv, rfl, hown, g4⟩
        obtain ⟨A4, c4, hv4, _, _, _⟩ := hown.listAt
        rw [placeC_len, keys_len] at hv4
        subst hv4
        have hr0 := (OwnL.empty wm wm.heap.size 40 2 (Nat.le_refl _) rfl).grew g4
        have HO := Lib.hid hown
        have HR0 := Lib.hid hr0
        have HG4 := Lib.hid (((Grew.refl wm).alloc (.cells #[] 40)).trans g4)
        clear hown hr0 g4
        have hpo : ∀ j, (Value.slice A4 L.length c4).ownBlock = some j → (Value.slice (some ⟨wm.heap.size, 0, none⟩) 0 0).ownBlock ≠ some j := by
          intro j hj e
          have h1 := (HO.out.own_ge hj).1
          simp [Value.ownBlock] at e
          simp at h1
          omega
        have HPO := Lib.hid hpo
        clear hpo
        go_wp2_with fail
        go_loopg [11, 43] L.length (fun gk rv i wq => ∃ k : Nat, k ≤ L.length ∧ gk = L.length - k ∧ i = .int .i64 k ∧ OwnL wq wm.heap.size 40 2 rv ((((keys L).take k).filter (fun p => !decide (p.1 = id))).map placeC) ∧ (∀ j, (Value.slice A4 L.length c4).ownBlock = some j → rv.ownBlock ≠ some j) ∧ OwnL wq (wm.heap.size + 1) 40 2 (.slice A4 L.length c4) ((keys L).map placeC) ∧ Grew wm wq)
        case atStart => exact ⟨0, by omega, by omega, rfl, by simpa using HR0.out, HPO.out, by simpa using HO.out, HG4.out⟩
        case round =>
          obtain ⟨q, hq, hgk, rfl, hown, hne, hpl, hgq⟩ := hrel
          have HGK := Lib.hid hgk
          have HNE := Lib.hid hne
          have HPL := Lib.hid hpl
          have HGQ := Lib.hid hgq
          have hsq := hgq.size
          have hfl : (((keys L).take q).filter (fun p => !decide (p.1 = id))).length ≤ q := by
            have h1 := List.length_filter_le (fun p : Place => !decide (p.1 = id)) ((keys L).take q)
            rw [List.length_take] at h1
            omega
          clear hgk hne hgq
          by_cases hql : q < L.length
          · have hqk : q < (keys L).length := by rw [keys_len]; exact hql
            rcases hpl.form with ⟨hv, h0⟩ | ⟨g, gc, hv, hbg, hgl, hgc, hgcm⟩
            · exfalso
              have := congrArg List.length h0
              rw [placeC_len, keys_len] at this
              simp only [List.length_nil] at this
              omega
            · rw [placeC_len, keys_len] at hv hgc
              injection hv with e1 _ e3
              subst e1; subst e3
              obtain ⟨p0, p1⟩ := own_place hpl hqk
              have hTK : (keys L).take (q + 1) = (keys L).take q ++ [(keys L)[q]] := List.take_succ_eq_append_getElem hqk
              obtain ⟨pl, hpq⟩ : ∃ pl, (keys L)[q] = pl := ⟨_, rfl⟩
              rw [hpq] at p0 p1 hTK
              have HTKE := Lib.hid hTK
              obtain ⟨pa, pb⟩ := pl
              simp only at p0 p1
              clear hTK hpq hpl
              by_cases hid : pa = id
              · have HFE := Lib.hid (show ((keys L).take (q + 1)).filter (fun p => !decide (p.1 = id)) = ((keys L).take q).filter (fun p => !decide (p.1 = id)) from by
                  rw [HTKE.out, List.filter_append]; simp [hid])
                have HOW := Lib.hid hown
                subst hid
                clear hown
                go_wp2_with fail
                go_roundg (L.length - (q + 1))
                case measure => rw [HGK.out]; omega
                case rel => exact ⟨q + 1, by omega, by omega, by go_num, by rw [HFE.out]; exact HOW.out.alloc _, HNE.out, HPL.out.alloc _, HGQ.out.alloc _⟩
              · have HFE := Lib.hid (show ((keys L).take (q + 1)).filter (fun p => !decide (p.1 = id)) = ((keys L).take q).filter (fun p => !decide (p.1 = id)) ++ [(pa, pb)] from by
                  rw [HTKE.out, List.filter_append]; simp [hid])
                go_wp2_with (at_builtin; refine wpList_push2 rfl _ _ 28 rfl wm.heap.size 40 2 16 _ Try.underlying28 info_place rfl (by decide) _ _ ((((keys L).take q).filter (fun p => !decide (p.1 = id))).map placeC) (placeC (pa, pb)) rfl rfl ((hown.alloc _).alloc _) (wr.heap.size + 1) (by rfl) (Blk.new _ _ _ (by simp)) rfl (by rw [placeC_len]; omega) (by rw [placeC_len]; omega) (by simp; omega) _ (placeC_len _) ?_; intro g5 cap5 w5 hown5 hgr5 hat5 hg5)
                have hbo := hown.row_ge
                have hne5 : ∀ j, (Value.slice (some ⟨g, 0, none⟩) L.length c4).ownBlock = some j → (Value.slice (some ⟨g5, 0, none⟩) ((((keys L).take q).filter (fun p => !decide (p.1 = id))).length + 1) cap5).ownBlock ≠ some j := by
                  intro j hj e
                  simp [Value.ownBlock] at hj e
                  subst hj
                  rcases hat5 with h1 | h1
                  · exact HNE.out g (by simp [Value.ownBlock]) (by have h2 : u11.ownBlock = some g5 := h1; rw [h2, e])
                  · simp at h1; omega
                have hpl5 := (((HPL.out.alloc (.cells #[.int .i64 pa, .int .i64 pb] 40)).alloc (.cells #[.int .i64 pa, .int .i64 pb] 40)).own hgr5 (fun j hj e => HNE.out j hj e))
                have hg5 := Grew.own ((HGQ.out.alloc (.cells #[.int .i64 pa, .int .i64 pb] 40)).alloc (.cells #[.int .i64 pa, .int .i64 pb] 40)) hgr5 hbo (Nat.le_refl _)
                go_roundg (L.length - (q + 1))
                case measure => rw [HGK.out]; omega
                case rel => exact ⟨q + 1, by omega, by omega, by go_num, by rw [HFE.out, List.map_append]; exact hown5, hne5, hpl5, hg5⟩
          · obtain rfl : q = L.length := by omega
            have hkk : ((keys L).take L.length).filter (fun p => !decide (p.1 = id)) = keys (dropS L id) := by
              rw [← keys_len L, List.take_length]
              exact (keys_filter L (fun p => decide (p.1 = id))).symm
            rw [hkk] at hown
            have hD2 := dropS_idem L id
            have hDL : (dropS L id).length ≤ L.length := List.length_filter_le _ _
            obtain ⟨D, hD⟩ : ∃ D, dropS L id = D := ⟨_, rfl⟩
            have hge := fun j (hj : u11.ownBlock = some j) => hown.own_ge hj
            rw [hD] at hown hD2 hDL
            obtain ⟨A5, c5, hv5, hc5, _, _⟩ := hown.listAt
            rw [placeC_len, keys_len] at hv5 hc5
            subst hv5
            have hpw := HPs.out.grew HGQ.out
            have hxm := HPs.out.blk.lt
            have hmm := HPs.out.map.lt
            have hvm := fun j (hj : v.ownBlock = some j) => (HPs.out.own.own_ge hj).2
            have hfw := (HFk.out.grew HGQ.out).apart (.slice A5 D.length c5) (fun j hj => by
              have := hge j hj
              exact ⟨this.2, by omega, by omega, fun e => by have := hvm j e; omega⟩)
            have HOW := Lib.hid hown
            have HTQ := Lib.hid (HTk.out.andGrew HGQ.out)
            have HPW := Lib.hid hpw
            have HFW2 := Lib.hid hfw
            have HD := Lib.hid hD
            have HD2 := Lib.hid hD2
            have hsq2 := HTQ.out.size
            clear hown hpl hkk hge hpw hfw hxm hmm hvm hD hD2
            go_wp2_with fail
            refine (len_any HPW.out).mono ?_
            rintro e w5 ⟨rfl, rfl⟩
            go_wp2_with fail
            refine (drop_any x m w1.heap.size v n h ms L id _ _ HPW.out HFW2.out (by omega) (by omega)).mono ?_
            rintro e w6 ⟨rfl, ⟨v6, hp6, hF6⟩, hT6⟩
            rw [HD.out] at hp6 ⊢
            have HP6 := Lib.hid hp6
            have HF6 := Lib.hid hF6
            have HT6 := Lib.hid hT6
            have hz6 := hT6.size
            clear hp6 hF6 hT6
            go_wp2_with fail
            refine (drop_any x m w1.heap.size v6 n h ms D id _ _ HP6.out HF6.out (by omega) (by omega)).mono ?_
            rintro e w7 ⟨rfl, ⟨v7, hp7, hF7⟩, hT7⟩
            rw [HD2.out] at hp7 ⊢
            have HP7 := Lib.hid hp7
            have hT67 := HT6.out.trans hT7
            have HT67 := Lib.hid hT67
            have HOW7 := Lib.hid (HOW.out.kept hT67 (fun g hg hs => hs.2 hg))
            have hz7 := hT7.size
            clear hp7 hF7 hT7 hT67
            have hzz : (D.length : Int) - (D.length : Int) = 0 := by omega
            go_wp2_with fail
            refine (places_any HP7.out (by omega)).mono ?_
            rintro e w8 ⟨pv8, rfl, hown8, g8⟩
            obtain ⟨A8, c8, hv8, hc8, _, _⟩ := hown8.listAt
            rw [placeC_len, keys_len] at hv8 hc8
            subst hv8
            have HO8 := Lib.hid hown8
            have HR8 := Lib.hid (HOW7.out.grew g8)
            have HT8 := Lib.hid ((HTQ.out.trans (HT67.out.mono (fun j _ hj => hj.1))).andGrew g8)
            clear hown8 g8
            go_wp2_with fail
            go_loopg [81] D.length (fun gk i wq => ∃ q : Nat, q ≤ D.length ∧ gk = D.length - q ∧ i = .int .i64 q ∧ OwnL wq wm.heap.size 40 2 (.slice A5 D.length c5) ((keys D).map placeC) ∧ OwnL wq w7.heap.size 40 2 (.slice A8 D.length c8) ((keys D).map placeC) ∧ Turned (fun j => w1.heap.size ≤ j) w1 wq)
            case atStart => exact ⟨0, by omega, by omega, rfl, HR8.out, HO8.out, HT8.out⟩
            case round =>
              obtain ⟨q, hq, hgk, rfl, hR, hO, hT⟩ := hrel
              have HGK := Lib.hid hgk
              have HRq := Lib.hid hR
              have HOq := Lib.hid hO
              have HTq := Lib.hid hT
              clear hgk hT
              by_cases hql : q < D.length
              · have hqk : q < (keys D).length := by rw [keys_len]; exact hql
                rcases hR.form with ⟨hv, h0⟩ | ⟨g, gc, hv, hbg, hgl, hgc, hgcm⟩
                · exfalso
                  have := congrArg List.length h0
                  rw [placeC_len, keys_len] at this
                  simp only [List.length_nil] at this
                  omega
                · rcases hO.form with ⟨hv', h0⟩ | ⟨g', gc', hv', hbg', hgl', hgc', hgcm'⟩
                  · exfalso
                    have := congrArg List.length h0
                    rw [placeC_len, keys_len] at this
                    simp only [List.length_nil] at this
                    omega
                  · rw [placeC_len, keys_len] at hv hgc hv' hgc'
                    injection hv with e1 _ e3
                    injection hv' with e1' _ e3'
                    subst e1; subst e3; subst e1'; subst e3'
                    obtain ⟨p0, p1⟩ := own_place hR hqk
                    obtain ⟨p2, p3⟩ := own_place hO hqk
                    obtain ⟨⟨pa, pb⟩, hpq⟩ : ∃ pl, (keys D)[q] = pl := ⟨_, rfl⟩
                    rw [hpq] at p0 p1 p2 p3
                    simp only at p0 p1 p2 p3
                    clear hpq hR hO
                    go_wp2_with fail
                    go_quiet (fail)
                    go_wp2_with fail
                    go_roundg (D.length - (q + 1))
                    case measure => rw [HGK.out]; omega
                    case rel => exact ⟨q + 1, by omega, by omega, by go_num, HRq.out.drewN _, HOq.out.drewN _, HTq.out.drewN _⟩
              · obtain rfl : q = D.length := by omega
                go_wp2_with fail
                go_ret
                exact ⟨rfl, g1.trans HTq.out.toGrew⟩
end Go.Proofs.Ytfmhiocigoejjaa
