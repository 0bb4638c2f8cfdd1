/- BufferInvalidates' walk (under way). -/
import Derived.Test.YtfmhiocigoejjaaBufN
namespace Go.Proofs.Ytfmhiocigoejjaa
set_option linter.unusedVariables false
set_option linter.unusedSimpArgs false
set_option linter.unusedSectionVars false
open Go.RowKit
set_option maxRecDepth 100000 in
set_option maxHeartbeats 8000000 in
theorem bufferInvalidates_any (c : Nat) (hc : c < 256) (A : Option Addr) (cc : Nat) (l : List Opn) (id page ver : Int) (hok : okPlace (id, page)) (w : World) (hl : l.length ≤ 9223372036854775807) (hv : OpsAt w w.heap.size A l) :
    Calls Try.prog 5 #[.int .u8 (c : Int), .slice A l.length cc, .int .i64 id, .int .i64 page, .int .i64 ver] w fun e w' => e = .returned (.bool true) ∧ Grew w w' := by
  have HV := Lib.hid hv
  clear hv
  cases hf : fewO l with
  | false =>
    have HFW := Lib.hid hf
    clear hf
    go_enter Try.func5, Try.ntmps5
    go_wp2_with fail
    refine (awake_any _).mono ?_
    rintro e w1 ⟨rfl, g1⟩
    go_wp2_with fail
    refine (few_any A cc l w1 _ (HV.out.hold (Nat.le_refl _) g1) hl).mono ?_
    rintro e w2 ⟨rfl, rfl⟩
    rw [HFW.out]
    go_wp2_with fail
    go_ret
    exact ⟨rfl, g1⟩
  | true =>
    have hl60 := fewO_len hf
    have HFW := Lib.hid hf
    clear hf
    go_enter Try.func5, Try.ntmps5
    go_wp2_with fail
    refine (awake_any _).mono ?_
    rintro e w1 ⟨rfl, g1⟩
    go_wp2_with fail
    refine (few_any A cc l w1 _ (HV.out.hold (Nat.le_refl _) g1) hl).mono ?_
    rintro e w2 ⟨rfl, rfl⟩
    rw [HFW.out]
    go_wp2_with fail
    refine (start_any c hc w1).mono ?_
    rintro e w2 ⟨x, m, n, hn, rfl, hp, g2⟩
    have hF := Foot.base hp g2.size
    have hn1 : 1 ≤ n ∧ n ≤ 8 := by omega
    obtain ⟨hn1, hn8⟩ := hn1
    have hT := g2.turned (fun k => w1.heap.size ≤ k)
    have HP := Lib.hid hp
    have HF := Lib.hid hF
    have HT := Lib.hid hT
    have HSD := Lib.hid (runO_sound (n : Int) l (by omega))
    clear hp hF hT g2 hn
    go_wp2_with fail
    go_loopg [39] l.length (fun gk i wr => ∃ v, ∃ k : Nat, k ≤ l.length ∧ gk = l.length - k ∧ i = .int .i64 k ∧ PoolM wr w1.heap.size x m v n (runO n l k).pages (runO n l k).hits (runO n l k).misses ∧ Foot (fun j => w1.heap.size ≤ j) wr x m v ∧ Turned (fun j => w1.heap.size ≤ j) w1 wr)
    case atStart => exact ⟨_, 0, by omega, by omega, rfl, HP.out, HF.out, HT.out⟩
    case round =>
      obtain ⟨v, k, hk, hgk, rfl, hp, hF, hT⟩ := hrel
      have HGK := Lib.hid hgk
      have HPk := Lib.hid hp
      have HFk := Lib.hid hF
      have HTk := Lib.hid hT
      clear hgk hp hF hT
      by_cases hlt : k < l.length
      · obtain ⟨b, off, rfl, hb, hok, c0, c1, c2, c3, c4⟩ := (HV.out.hold (Nat.le_refl _) (g1.trans HTk.out.toGrew)).at_ hlt
        obtain ⟨t, ht⟩ : ∃ t, t = l[k] := ⟨_, rfl⟩
        have HL := Lib.hid ht
        rw [← ht] at c0 c1 c2 c3 c4 hok
        have HOK := Lib.hid hok
        clear ht hok
        have hsz := HTk.out.size
        have HD := Lib.hid (do_any x m w1.heap.size v n (runO n l k) k t _ (fun j => w1.heap.size ≤ j) (HPk.out.grew ((Grew.refl wr).alloc (.cells #[.int .i64 t.kind, .int .i64 t.id, .int .i64 t.page, .int .i64 t.ver, .string t.data] 38))) (HFk.out.grew ((Grew.refl wr).alloc _)) (HSD.out k) (by omega) ⟨by omega, by omega⟩ (by simp; omega) HOK.out)
        go_wp2_with fail
        refine HD.out.mono ?_
        rintro e w3 ⟨rfl, ⟨v3, hp3, hF3⟩, hT3⟩
        have HP3 := Lib.hid hp3
        have HF3 := Lib.hid hF3
        have HT3 := Lib.hid hT3
        clear hp3 hF3 hT3 HD
        go_wp2_with fail
        go_roundg (l.length - (k + 1))
        case measure => rw [HGK.out]; omega
        case rel => exact ⟨v3, k + 1, by omega, by omega, by go_num, by rw [runO_succ _ _ _ hlt, ← HL.out]; exact HP3.out, HF3.out, (HTk.out.alloc _).trans HT3.out⟩
      · obtain ⟨s, hs⟩ : ∃ s, runO n l k = s := ⟨_, rfl⟩
        have hsd := HSD.out k
        have hp := HPk.out
        rw [hs] at hsd hp
        obtain ⟨L, h, ms⟩ := s
        obtain ⟨d1, d2, d3, d4, d5⟩ := hsd
        simp only at hp d1 d2 d3 d4 d5
        have hL8 : L.length ≤ 8 := by omega
        have HPs := Lib.hid hp
        have hsz := HTk.out.size
        clear HPk HSD hs hp
        cases hlk : look L (id, page) with
        | none =>
          have HG1 := Lib.hid (get_none x m w1.heap.size v n h ms L id page wr (fun j => w1.heap.size ≤ j) HPs.out HFk.out (by omega) hsz hok ⟨by omega, by omega⟩ hlk)
          have HI := Lib.hid (show invS L (id, page) ver = L from invS_none L (id, page) ver hlk)
          have HLL := Lib.hid hlk
          have hn1 : L.length ≤ 9 := by omega
          have hn2 : L.length ≤ 9 := by omega
          have HRM := Lib.hid (show decide ((0 : Int) < (L.length : Int) - (L.length : Int)) = false from by rw [decide_eq_false_iff_not]; omega)
          go_wp2_with fail
          refine HG1.out.mono ?_
          rintro e w5 ⟨rfl, ⟨v5, hp5, hF5⟩, hT5⟩
          have HP5 := Lib.hid hp5
          have HF5 := Lib.hid hF5
          have HT5 := Lib.hid (HTk.out.trans hT5)
          have hz5 := hT5.size
          clear hp5 hF5 hT5 HG1
          go_wp2_with fail
          refine (places_any HP5.out (by omega)).mono ?_
          rintro e w6 ⟨b6, rfl, hown6, g6⟩
          obtain ⟨A6, c6, hv6, hc6, _, _⟩ := hown6.listAt
          obtain ⟨n1, hn1e⟩ : ∃ n1, L.length = n1 := ⟨_, rfl⟩
          rw [placeC_len, keys_len, hn1e] at hv6 hc6
          subst hv6
          have hF6 := (HF5.out.grew g6).apart (.slice A6 n1 c6) (fun j hj => by
            have h1 := hown6.own_ge hj
            have h2 := HP5.out.blk.lt
            have h3 := HP5.out.map.lt
            exact ⟨h1.2, by omega, by omega, fun e => by have := (HP5.out.own.own_ge e).2; omega⟩)
          have HP6 := Lib.hid (HP5.out.grew g6)
          have HF6 := Lib.hid hF6
          have HO6 := Lib.hid hown6
          have HT6 := Lib.hid (HT5.out.andGrew g6)
          have hz6 := g6.size
          clear hown6 hF6 g6
          have HG2 := Lib.hid (inv_any x m w1.heap.size v5 n h (ms + 1) L id page ver w6 _ HP6.out HF6.out (by omega) (by omega))
          go_wp2_with fail
          refine HG2.out.mono ?_
          rintro e w7 ⟨rfl, ⟨v7, hp7, hF7⟩, hT7⟩
          rw [HI.out] at hp7 ⊢
          rw [HRM.out]
          have HP7 := Lib.hid hp7
          have HF7 := Lib.hid hF7
          have HT7 := Lib.hid hT7
          have HO7 := Lib.hid (HO6.out.kept hT7 (fun g hg hs => hs.2 hg))
          have hz7 := hT7.size
          clear hp7 hF7 hT7 HG2
          go_wp2_with fail
          refine (places_any HP7.out (by omega)).mono ?_
          rintro e w8 ⟨b8, rfl, hown8, g8⟩
          obtain ⟨A8, c8, hv8, hc8, _, _⟩ := hown8.listAt
          obtain ⟨n2, hn2e⟩ : ∃ n2, L.length = n2 := ⟨_, rfl⟩
          rw [placeC_len, keys_len, hn2e] at hv8 hc8
          subst hv8
          have hF8 := (HF7.out.grew g8).apart (.slice A8 n2 c8) (fun j hj => by
            have h1 := hown8.own_ge hj
            have h2 := HP7.out.blk.lt
            have h3 := HP7.out.map.lt
            exact ⟨h1.2, by omega, by omega, fun e => by have := (HP7.out.own.own_ge e).2; omega⟩)
          have HP8 := Lib.hid (HP7.out.grew g8)
          have HF8 := Lib.hid hF8
          have HO8 := Lib.hid hown8
          have HT8 := Lib.hid ((HT6.out.trans (HT7.out.mono (fun j _ hj => hj.1))).andGrew g8)
          have HB8 := Lib.hid (HO7.out.grew g8)
          have hz8 := g8.size
          clear hown8 hF8 g8
          have HG3 := Lib.hid (get_none x m w1.heap.size v7 n h (ms + 1) L id page w8 _ HP8.out HF8.out (by omega) (by omega) hok ⟨by omega, by omega⟩ HLL.out)
          go_wp2_with fail
          refine HG3.out.mono ?_
          rintro e w9 ⟨rfl, _, hT9⟩
          have HB9 := Lib.hid (HB8.out.kept hT9 (fun g hg hs => hs.1.2 hg))
          have HA9 := Lib.hid (HO8.out.kept hT9 (fun g hg hs => hs.2 hg))
          have HT9 := Lib.hid (HT8.out.trans (hT9.mono (fun j _ hj => hj.1.1)))
          clear hT9 HG3
          obtain rfl : n1 = n2 := by rw [← hn1e, ← hn2e]
          have HB2 := Lib.hid (show n1 = n1 from rfl)
          have HE1 := Lib.hid hn1e
          have HE2 := Lib.hid hn2e
          clear hn1e hn2e
          go_wp2_with fail
          go_loopg [108] n1 (fun gk i wq => ∃ q : Nat, q ≤ n1 ∧ gk = n1 - q ∧ i = .int .i64 q ∧ OwnL wq w5.heap.size 40 2 (.slice A6 n1 c6) ((keys L).map placeC) ∧ OwnL wq w7.heap.size 40 2 (.slice A8 n1 c8) ((keys L).map placeC) ∧ Turned (fun j => w1.heap.size ≤ j) w1 wq)
          case atStart => exact ⟨0, by omega, by omega, rfl, HB9.out, HA9.out, HT9.out⟩
          case round =>
            obtain ⟨q, hq, hgk, rfl, hR, hO, hT⟩ := hrel
            have HGK := Lib.hid hgk
            have HRq := Lib.hid hR
            have HOq := Lib.hid hO
            have HTq := Lib.hid hT
            clear hgk hT
            by_cases hql : q < n1
            · have hqk : q < (keys L).length := by rw [keys_len, HE1.out]; omega
              have hqk2 : q < (keys L).length := by rw [keys_len, HE2.out]; omega
              rcases hR.form with ⟨hv, h0⟩ | ⟨g, gc, hv, hbg, hgl, hgc, hgcm⟩
              · exfalso
                have := congrArg List.length h0
                rw [placeC_len, keys_len, HE1.out] at this
                simp only [List.length_nil] at this
                omega
              · rcases hO.form with ⟨hv', h0⟩ | ⟨g', gc', hv', hbg', hgl', hgc', hgcm'⟩
                · exfalso
                  have := congrArg List.length h0
                  rw [placeC_len, keys_len, HE2.out] at this
                  simp only [List.length_nil] at this
                  omega
                · rw [placeC_len, keys_len, HE1.out] at hv hgc
                  rw [placeC_len, keys_len, HE2.out] at hv' hgc'
                  injection hv with e1 _ e3
                  injection hv' with e1' _ e3'
                  subst e1; subst e3; subst e1'; subst e3'
                  obtain ⟨p0, p1⟩ := own_place hR hqk
                  obtain ⟨p2, p3⟩ := own_place hO hqk2
                  obtain ⟨⟨pa, pb⟩, hpq⟩ : ∃ pl, (keys L)[q] = pl := ⟨_, rfl⟩
                  have hpq1 := hpq
                  rw [hpq1] at p0 p1
                  rw [hpq] at p2 p3
                  simp only at p0 p1 p2 p3
                  clear hpq hpq1 hR hO
                  go_wp2_with fail
                  go_quiet (fail)
                  go_wp2_with fail
                  go_roundg (n1 - (q + 1))
                  case measure => rw [HGK.out]; omega
                  case rel => exact ⟨q + 1, by omega, by omega, by go_num, HRq.out.drewN _, HOq.out.drewN _, HTq.out.drewN _⟩
            · obtain rfl : q = n1 := by omega
              go_wp2_with fail
              go_ret
              exact ⟨rfl, g1.trans HTq.out.toGrew⟩
        | some ct =>
          obtain ⟨cs, cu⟩ := ct
          by_cases hver : cu < ver
          · have HG1 := Lib.hid (get_some x m w1.heap.size v n h ms L id page cs cu wr (fun j => w1.heap.size ≤ j) HPs.out HFk.out (by omega) hsz hok ⟨by omega, by omega⟩ hlk)
            have HI := Lib.hid (show invS (rmv L (id, page) ++ [((id, page), (cs, cu))]) (id, page) ver = (rmv L (id, page)) from (invS_gone _ (id, page) (cs, cu) ver (look_last L (id, page) (cs, cu)) hver).trans (rmv_snoc L (id, page) (cs, cu)))
            have HLL := Lib.hid hlk
            have hn1 : (rmv L (id, page) ++ [((id, page), (cs, cu))]).length ≤ 9 := by rw [List.length_append, List.length_singleton]; have := rmv_len L (id, page); omega
            have hn2 : (rmv L (id, page)).length ≤ 9 := by have := rmv_len L (id, page); omega
            have HRM := Lib.hid (show decide ((0 : Int) < ((rmv L (id, page) ++ [((id, page), (cs, cu))]).length : Int) - ((rmv L (id, page)).length : Int)) = true from by rw [decide_eq_true_eq, List.length_append, List.length_singleton]; omega)
            go_wp2_with fail
            refine HG1.out.mono ?_
            rintro e w5 ⟨rfl, ⟨v5, hp5, hF5⟩, hT5⟩
            have HP5 := Lib.hid hp5
            have HF5 := Lib.hid hF5
            have HT5 := Lib.hid (HTk.out.trans hT5)
            have hz5 := hT5.size
            clear hp5 hF5 hT5 HG1
            go_wp2_with fail
            refine (places_any HP5.out (by omega)).mono ?_
            rintro e w6 ⟨b6, rfl, hown6, g6⟩
            obtain ⟨A6, c6, hv6, hc6, _, _⟩ := hown6.listAt
            obtain ⟨n1, hn1e⟩ : ∃ n1, (rmv L (id, page) ++ [((id, page), (cs, cu))]).length = n1 := ⟨_, rfl⟩
            rw [placeC_len, keys_len, hn1e] at hv6 hc6
            subst hv6
            have hF6 := (HF5.out.grew g6).apart (.slice A6 n1 c6) (fun j hj => by
              have h1 := hown6.own_ge hj
              have h2 := HP5.out.blk.lt
              have h3 := HP5.out.map.lt
              exact ⟨h1.2, by omega, by omega, fun e => by have := (HP5.out.own.own_ge e).2; omega⟩)
            have HP6 := Lib.hid (HP5.out.grew g6)
            have HF6 := Lib.hid hF6
            have HO6 := Lib.hid hown6
            have HT6 := Lib.hid (HT5.out.andGrew g6)
            have hz6 := g6.size
            clear hown6 hF6 g6
            have HG2 := Lib.hid (inv_any x m w1.heap.size v5 n (h + 1) ms (rmv L (id, page) ++ [((id, page), (cs, cu))]) id page ver w6 _ HP6.out HF6.out (by omega) (by omega))
            go_wp2_with fail
            refine HG2.out.mono ?_
            rintro e w7 ⟨rfl, ⟨v7, hp7, hF7⟩, hT7⟩
            rw [HI.out] at hp7 ⊢
            rw [HRM.out]
            have HP7 := Lib.hid hp7
            have HF7 := Lib.hid hF7
            have HT7 := Lib.hid hT7
            have HO7 := Lib.hid (HO6.out.kept hT7 (fun g hg hs => hs.2 hg))
            have hz7 := hT7.size
            clear hp7 hF7 hT7 HG2
            go_wp2_with fail
            refine (places_any HP7.out (by omega)).mono ?_
            rintro e w8 ⟨b8, rfl, hown8, g8⟩
            obtain ⟨A8, c8, hv8, hc8, _, _⟩ := hown8.listAt
            obtain ⟨n2, hn2e⟩ : ∃ n2, (rmv L (id, page)).length = n2 := ⟨_, rfl⟩
            rw [placeC_len, keys_len, hn2e] at hv8 hc8
            subst hv8
            have hF8 := (HF7.out.grew g8).apart (.slice A8 n2 c8) (fun j hj => by
              have h1 := hown8.own_ge hj
              have h2 := HP7.out.blk.lt
              have h3 := HP7.out.map.lt
              exact ⟨h1.2, by omega, by omega, fun e => by have := (HP7.out.own.own_ge e).2; omega⟩)
            have HP8 := Lib.hid (HP7.out.grew g8)
            have HF8 := Lib.hid hF8
            have HO8 := Lib.hid hown8
            have HT8 := Lib.hid ((HT6.out.trans (HT7.out.mono (fun j _ hj => hj.1))).andGrew g8)
            have HB8 := Lib.hid (HO7.out.grew g8)
            have hz8 := g8.size
            clear hown8 hF8 g8
            have HG3 := Lib.hid (get_none x m w1.heap.size v7 n (h + 1) ms (rmv L (id, page)) id page w8 _ HP8.out HF8.out (by omega) (by omega) hok ⟨by omega, by omega⟩ (look_rmv L (id, page)))
            go_wp2_with fail
            refine HG3.out.mono ?_
            rintro e w9 ⟨rfl, _, hT9⟩
            have HB9 := Lib.hid (HB8.out.kept hT9 (fun g hg hs => hs.1.2 hg))
            have HA9 := Lib.hid (HO8.out.kept hT9 (fun g hg hs => hs.2 hg))
            have HT9 := Lib.hid (HT8.out.trans (hT9.mono (fun j _ hj => hj.1.1)))
            clear hT9 HG3
            have hn12 : n1 - 1 = n2 := by rw [← hn1e, ← hn2e, List.length_append, List.length_singleton]; omega
            have hb2 : n1 = n2 + 1 := by rw [← hn1e, ← hn2e, List.length_append, List.length_singleton]
            have hb0 : 0 ≤ (n1 : Int) - 1 := by omega
            have hb1 : (n1 : Int) - 1 ≤ (c6 : Int) := by omega
            have hb3 : (n1 : Int) - 1 = (n2 : Int) := by omega
            have hb4 : ((n1 : Int) == 0) = false := beq_eq_false_iff_ne.2 (by omega)
            have HB2 := Lib.hid hb2
            clear hb2
            have HE1 := Lib.hid hn1e
            have HE2 := Lib.hid hn2e
            have HEQ := Lib.hid (show ∀ q, q < n2 → (keys (rmv L (id, page) ++ [((id, page), (cs, cu))]))[q]? = (keys (rmv L (id, page)))[q]? from fun q hq => by rw [keys_snoc, List.getElem?_append_left (by rw [keys_len]; omega)])
            clear hn1e hn2e
            go_wp2_with fail
            clear hn12 hb0 hb1 hb3 hb4
            go_loopg [108] n2 (fun gk i wq => ∃ q : Nat, q ≤ n2 ∧ gk = n2 - q ∧ i = .int .i64 q ∧ OwnL wq w5.heap.size 40 2 (.slice A6 n1 c6) ((keys (rmv L (id, page) ++ [((id, page), (cs, cu))])).map placeC) ∧ OwnL wq w7.heap.size 40 2 (.slice A8 n2 c8) ((keys (rmv L (id, page))).map placeC) ∧ Turned (fun j => w1.heap.size ≤ j) w1 wq)
            case atStart => exact ⟨0, by omega, by omega, rfl, HB9.out, HA9.out, HT9.out⟩
            case round =>
              obtain ⟨q, hq, hgk, rfl, hR, hO, hT⟩ := hrel
              have HGK := Lib.hid hgk
              have HRq := Lib.hid hR
              have HOq := Lib.hid hO
              have HTq := Lib.hid hT
              clear hgk hT
              by_cases hql : q < n2
              · have hqk : q < (keys (rmv L (id, page) ++ [((id, page), (cs, cu))])).length := by rw [keys_len, HE1.out]; have := HB2.out; omega
                have hqk2 : q < (keys (rmv L (id, page))).length := by rw [keys_len, HE2.out]; omega
                rcases hR.form with ⟨hv, h0⟩ | ⟨g, gc, hv, hbg, hgl, hgc, hgcm⟩
                · exfalso
                  have := congrArg List.length h0
                  rw [placeC_len, keys_len, HE1.out] at this
                  simp only [List.length_nil] at this
                  have hB := HB2.out
                  omega
                · rcases hO.form with ⟨hv', h0⟩ | ⟨g', gc', hv', hbg', hgl', hgc', hgcm'⟩
                  · exfalso
                    have := congrArg List.length h0
                    rw [placeC_len, keys_len, HE2.out] at this
                    simp only [List.length_nil] at this
                    omega
                  · rw [placeC_len, keys_len, HE1.out] at hv hgc
                    rw [placeC_len, keys_len, HE2.out] at hv' hgc'
                    injection hv with e1 _ e3
                    injection hv' with e1' _ e3'
                    subst e1; subst e3; subst e1'; subst e3'
                    obtain ⟨p0, p1⟩ := own_place hR hqk
                    obtain ⟨p2, p3⟩ := own_place hO hqk2
                    have he := HEQ.out q hql
                    rw [List.getElem?_eq_getElem hqk, List.getElem?_eq_getElem hqk2] at he
                    obtain ⟨⟨pa, pb⟩, hpq⟩ : ∃ pl, (keys (rmv L (id, page)))[q] = pl := ⟨_, rfl⟩
                    have hpq1 := (Option.some.inj he).trans hpq
                    rw [hpq1] at p0 p1
                    rw [hpq] at p2 p3
                    simp only at p0 p1 p2 p3
                    clear hpq hpq1 he hR hO
                    go_wp2_with fail
                    go_quiet (fail)
                    go_wp2_with fail
                    go_roundg (n2 - (q + 1))
                    case measure => rw [HGK.out]; omega
                    case rel => exact ⟨q + 1, by omega, by omega, by go_num, HRq.out.drewN _, HOq.out.drewN _, HTq.out.drewN _⟩
              · obtain rfl : q = n2 := by omega
                go_wp2_with fail
                go_ret
                exact ⟨rfl, g1.trans HTq.out.toGrew⟩
          · have HG1 := Lib.hid (get_some x m w1.heap.size v n h ms L id page cs cu wr (fun j => w1.heap.size ≤ j) HPs.out HFk.out (by omega) hsz hok ⟨by omega, by omega⟩ hlk)
            have HI := Lib.hid (show invS (rmv L (id, page) ++ [((id, page), (cs, cu))]) (id, page) ver = (rmv L (id, page) ++ [((id, page), (cs, cu))]) from invS_kept _ (id, page) (cs, cu) ver (look_last L (id, page) (cs, cu)) hver)
            have HLL := Lib.hid hlk
            have hn1 : (rmv L (id, page) ++ [((id, page), (cs, cu))]).length ≤ 9 := by rw [List.length_append, List.length_singleton]; have := rmv_len L (id, page); omega
            have hn2 : (rmv L (id, page) ++ [((id, page), (cs, cu))]).length ≤ 9 := by omega
            have HRM := Lib.hid (show decide ((0 : Int) < ((rmv L (id, page) ++ [((id, page), (cs, cu))]).length : Int) - ((rmv L (id, page) ++ [((id, page), (cs, cu))]).length : Int)) = false from by rw [decide_eq_false_iff_not]; omega)
            go_wp2_with fail
            refine HG1.out.mono ?_
            rintro e w5 ⟨rfl, ⟨v5, hp5, hF5⟩, hT5⟩
            have HP5 := Lib.hid hp5
            have HF5 := Lib.hid hF5
            have HT5 := Lib.hid (HTk.out.trans hT5)
            have hz5 := hT5.size
            clear hp5 hF5 hT5 HG1
            go_wp2_with fail
            refine (places_any HP5.out (by omega)).mono ?_
            rintro e w6 ⟨b6, rfl, hown6, g6⟩
            obtain ⟨A6, c6, hv6, hc6, _, _⟩ := hown6.listAt
            obtain ⟨n1, hn1e⟩ : ∃ n1, (rmv L (id, page) ++ [((id, page), (cs, cu))]).length = n1 := ⟨_, rfl⟩
            rw [placeC_len, keys_len, hn1e] at hv6 hc6
            subst hv6
            have hF6 := (HF5.out.grew g6).apart (.slice A6 n1 c6) (fun j hj => by
              have h1 := hown6.own_ge hj
              have h2 := HP5.out.blk.lt
              have h3 := HP5.out.map.lt
              exact ⟨h1.2, by omega, by omega, fun e => by have := (HP5.out.own.own_ge e).2; omega⟩)
            have HP6 := Lib.hid (HP5.out.grew g6)
            have HF6 := Lib.hid hF6
            have HO6 := Lib.hid hown6
            have HT6 := Lib.hid (HT5.out.andGrew g6)
            have hz6 := g6.size
            clear hown6 hF6 g6
            have HG2 := Lib.hid (inv_any x m w1.heap.size v5 n (h + 1) ms (rmv L (id, page) ++ [((id, page), (cs, cu))]) id page ver w6 _ HP6.out HF6.out (by omega) (by omega))
            go_wp2_with fail
            refine HG2.out.mono ?_
            rintro e w7 ⟨rfl, ⟨v7, hp7, hF7⟩, hT7⟩
            rw [HI.out] at hp7 ⊢
            rw [HRM.out]
            have HP7 := Lib.hid hp7
            have HF7 := Lib.hid hF7
            have HT7 := Lib.hid hT7
            have HO7 := Lib.hid (HO6.out.kept hT7 (fun g hg hs => hs.2 hg))
            have hz7 := hT7.size
            clear hp7 hF7 hT7 HG2
            go_wp2_with fail
            refine (places_any HP7.out (by omega)).mono ?_
            rintro e w8 ⟨b8, rfl, hown8, g8⟩
            obtain ⟨A8, c8, hv8, hc8, _, _⟩ := hown8.listAt
            obtain ⟨n2, hn2e⟩ : ∃ n2, (rmv L (id, page) ++ [((id, page), (cs, cu))]).length = n2 := ⟨_, rfl⟩
            rw [placeC_len, keys_len, hn2e] at hv8 hc8
            subst hv8
            have hF8 := (HF7.out.grew g8).apart (.slice A8 n2 c8) (fun j hj => by
              have h1 := hown8.own_ge hj
              have h2 := HP7.out.blk.lt
              have h3 := HP7.out.map.lt
              exact ⟨h1.2, by omega, by omega, fun e => by have := (HP7.out.own.own_ge e).2; omega⟩)
            have HP8 := Lib.hid (HP7.out.grew g8)
            have HF8 := Lib.hid hF8
            have HO8 := Lib.hid hown8
            have HT8 := Lib.hid ((HT6.out.trans (HT7.out.mono (fun j _ hj => hj.1))).andGrew g8)
            have HB8 := Lib.hid (HO7.out.grew g8)
            have hz8 := g8.size
            clear hown8 hF8 g8
            have HG3 := Lib.hid (get_some x m w1.heap.size v7 n (h + 1) ms (rmv L (id, page) ++ [((id, page), (cs, cu))]) id page cs cu w8 _ HP8.out HF8.out (by omega) (by omega) hok ⟨by omega, by omega⟩ (look_last L (id, page) (cs, cu)))
            go_wp2_with fail
            refine HG3.out.mono ?_
            rintro e w9 ⟨rfl, _, hT9⟩
            have HB9 := Lib.hid (HB8.out.kept hT9 (fun g hg hs => hs.1.2 hg))
            have HA9 := Lib.hid (HO8.out.kept hT9 (fun g hg hs => hs.2 hg))
            have HT9 := Lib.hid (HT8.out.trans (hT9.mono (fun j _ hj => hj.1.1)))
            clear hT9 HG3
            obtain rfl : n1 = n2 := by rw [← hn1e, ← hn2e]
            have HB2 := Lib.hid (show n1 = n1 from rfl)
            have HE1 := Lib.hid hn1e
            have HE2 := Lib.hid hn2e
            clear hn1e hn2e
            go_wp2_with fail
            go_loopg [108] n1 (fun gk i wq => ∃ q : Nat, q ≤ n1 ∧ gk = n1 - q ∧ i = .int .i64 q ∧ OwnL wq w5.heap.size 40 2 (.slice A6 n1 c6) ((keys (rmv L (id, page) ++ [((id, page), (cs, cu))])).map placeC) ∧ OwnL wq w7.heap.size 40 2 (.slice A8 n1 c8) ((keys (rmv L (id, page) ++ [((id, page), (cs, cu))])).map placeC) ∧ Turned (fun j => w1.heap.size ≤ j) w1 wq)
            case atStart => exact ⟨0, by omega, by omega, rfl, HB9.out, HA9.out, HT9.out⟩
            case round =>
              obtain ⟨q, hq, hgk, rfl, hR, hO, hT⟩ := hrel
              have HGK := Lib.hid hgk
              have HRq := Lib.hid hR
              have HOq := Lib.hid hO
              have HTq := Lib.hid hT
              clear hgk hT
              by_cases hql : q < n1
              · have hqk : q < (keys (rmv L (id, page) ++ [((id, page), (cs, cu))])).length := by rw [keys_len, HE1.out]; have := HB2.out; omega
                have hqk2 : q < (keys (rmv L (id, page) ++ [((id, page), (cs, cu))])).length := by rw [keys_len, HE2.out]; omega
                rcases hR.form with ⟨hv, h0⟩ | ⟨g, gc, hv, hbg, hgl, hgc, hgcm⟩
                · exfalso
                  have := congrArg List.length h0
                  rw [placeC_len, keys_len, HE1.out] at this
                  simp only [List.length_nil] at this
                  omega
                · rcases hO.form with ⟨hv', h0⟩ | ⟨g', gc', hv', hbg', hgl', hgc', hgcm'⟩
                  · exfalso
                    have := congrArg List.length h0
                    rw [placeC_len, keys_len, HE2.out] at this
                    simp only [List.length_nil] at this
                    omega
                  · rw [placeC_len, keys_len, HE1.out] at hv hgc
                    rw [placeC_len, keys_len, HE2.out] at hv' hgc'
                    injection hv with e1 _ e3
                    injection hv' with e1' _ e3'
                    subst e1; subst e3; subst e1'; subst e3'
                    obtain ⟨p0, p1⟩ := own_place hR hqk
                    obtain ⟨p2, p3⟩ := own_place hO hqk2
                    obtain ⟨⟨pa, pb⟩, hpq⟩ : ∃ pl, (keys (rmv L (id, page) ++ [((id, page), (cs, cu))]))[q] = pl := ⟨_, rfl⟩
                    have hpq1 := hpq
                    rw [hpq1] at p0 p1
                    rw [hpq] at p2 p3
                    simp only at p0 p1 p2 p3
                    clear hpq hpq1 hR hO
                    go_wp2_with fail
                    go_quiet (fail)
                    go_wp2_with fail
                    go_roundg (n1 - (q + 1))
                    case measure => rw [HGK.out]; omega
                    case rel => exact ⟨q + 1, by omega, by omega, by go_num, HRq.out.drewN _, HOq.out.drewN _, HTq.out.drewN _⟩
              · obtain rfl : q = n1 := by omega
                go_wp2_with fail
                go_ret
                exact ⟨rfl, g1.trans HTq.out.toGrew⟩
end Go.Proofs.Ytfmhiocigoejjaa
