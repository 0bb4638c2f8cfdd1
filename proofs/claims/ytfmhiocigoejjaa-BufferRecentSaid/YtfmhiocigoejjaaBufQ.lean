/- BufferRecent's walk (under way). -/
import Derived.Test.YtfmhiocigoejjaaBufP
namespace Go.Proofs.Ytfmhiocigoejjaa
set_option linter.unusedVariables false
set_option linter.unusedSimpArgs false
set_option linter.unusedSectionVars false
open Go.RowKit
set_option maxRecDepth 100000 in
set_option maxHeartbeats 8000000 in
theorem bufferRecent_any (c : Nat) (hc : c < 256) (A : Option Addr) (cc : Nat) (l : List Opn) (w : World) (hl : l.length ≤ 9223372036854775807) (hv : OpsAt w w.heap.size A l) :
    Calls Try.prog 4 #[.int .u8 (c : Int), .slice A l.length cc] w fun e w' => e = .returned (.bool true) ∧ Grew w w' := by
  have HV := Lib.hid hv
  clear hv
  cases hf : fewO l with
  | false =>
    have HFW := Lib.hid hf
    clear hf
    go_enter Try.func4, Try.ntmps4
    go_wp2_with fail
    refine (awake_any _).mono ?_
    rintro e w1 ⟨rfl, g1⟩
    go_wp2_with fail
    refine (few_any A cc l w1 _ (HV.out.hold (Nat.le_refl _) g1) hl).mono ?_
    rintro e w2 ⟨rfl, rfl⟩
    rw [HFW.out]
    go_wp2_with fail
    go_ret
    exact ⟨rfl, g1⟩
  | true =>
    have hl60 := fewO_len hf
    have HFW := Lib.hid hf
    clear hf
    go_enter Try.func4, Try.ntmps4
    go_wp2_with fail
    refine (awake_any _).mono ?_
    rintro e w1 ⟨rfl, g1⟩
    go_wp2_with fail
    refine (few_any A cc l w1 _ (HV.out.hold (Nat.le_refl _) g1) hl).mono ?_
    rintro e w2 ⟨rfl, rfl⟩
    rw [HFW.out]
    go_wp2_with fail
    refine (start_any c hc w1).mono ?_
    rintro e w2 ⟨x, m, n, hn, rfl, hp, g2⟩
    have hF := Foot.base hp g2.size
    have hn1 : 1 ≤ n ∧ n ≤ 8 := by omega
    obtain ⟨hn1, hn8⟩ := hn1
    have hT := g2.turned (fun k => w1.heap.size ≤ k)
    have HP := Lib.hid hp
    have HF := Lib.hid hF
    have HT := Lib.hid hT
    have HSD := Lib.hid (runO_sound (n : Int) l (by omega))
    clear hp hF hT g2 hn
    go_wp2_with fail
    have HRC := Lib.hid (runR_recent n l hn1)
    have HZ := Lib.hid (OwnL.empty w2 w1.heap.size 40 2 HT.out.size rfl)
    clear HSD
    go_loopg [7, 33] l.length (fun gk uv i wr => ∃ v, ∃ k : Nat, k ≤ l.length ∧ gk = l.length - k ∧ i = .int .i64 k ∧ OwnL wr w1.heap.size 40 2 uv ((runR n l k).2.map placeC) ∧ (∀ j, uv.ownBlock = some j → j ≠ x ∧ j ≠ m ∧ v.ownBlock ≠ some j) ∧ PoolM wr w1.heap.size x m v n (runR n l k).1.pages (runR n l k).1.hits (runR n l k).1.misses ∧ Turned (fun j => w1.heap.size ≤ j) w1 wr)
    case atStart =>
      refine ⟨_, 0, by omega, by omega, rfl, by simpa [runR] using HZ.out, fun j hj => ?_, HP.out.grew ((Grew.refl _).alloc _), HT.out.alloc _⟩
      have h1 := HP.out.blk.lt
      have h2 := HP.out.map.lt
      simp [Value.ownBlock] at hj ⊢
      omega
    case round =>
      obtain ⟨v, k, hk, hgk, rfl, hU, hne, hp, hT⟩ := hrel
      obtain ⟨wm, hwm⟩ : ∃ wm, wm = wr := ⟨_, rfl⟩
      subst hwm
      have HGK := Lib.hid hgk
      have HTk := Lib.hid hT
      have hrc := HRC.out k
      obtain ⟨s, hs⟩ : ∃ s, runR n l k = s := ⟨_, rfl⟩
      rw [hs] at hrc hp hU
      have HS := Lib.hid hs
      obtain ⟨⟨L, h, ms⟩, U⟩ := s
      have hUl := hrc.len
      have HSD := Lib.hid hrc.sound
      have HKU := Lib.hid hrc.keys
      obtain ⟨d1, d2, d3, d4, d5⟩ := hrc.sound
      simp only at hp hU hUl d1 d2 d3 d4 d5
      obtain ⟨A4, cU, hv4, hc4, hc4m, _⟩ := hU.listAt
      rw [placeC_len] at hv4 hc4
      subst hv4
      have HU := Lib.hid hU
      have HNE := Lib.hid hne
      have HPk := Lib.hid hp
      have hsz := hT.size
      have hxl := hp.blk.lt
      have hml := hp.map.lt
      have HVL := Lib.hid (fun j (hj : v.ownBlock = some j) => (hp.own.own_ge hj).2)
      have HUL := Lib.hid (fun j (hj : (Value.slice A4 U.length cU).ownBlock = some j) => (hU.own_ge hj).2)
      have hL8 : L.length ≤ 8 := by omega
      clear hgk hp hT hs hrc hU hne
      by_cases hlt : k < l.length
      · obtain ⟨b, off, rfl, hb, hok, c0, c1, c2, c3, c4⟩ := (HV.out.hold (Nat.le_refl _) (g1.trans HTk.out.toGrew)).at_ hlt
        obtain ⟨t, ht⟩ : ∃ t, t = l[k] := ⟨_, rfl⟩
        have HRS := Lib.hid (show runR n l (k + 1) = stepR n (⟨L, h, ms⟩, U) t from by rw [runR_succ _ _ _ hlt, ← ht, HS.out])
        rw [← ht] at c0 c1 c2 c3 c4 hok
        have HOK := Lib.hid hok
        clear ht hok
        obtain ⟨kind, id, page, ver, data⟩ := t
        simp only at c0 c1 c2 c3 c4
        have gA := (((Grew.refl wm).alloc (.cells #[.int .i64 kind, .int .i64 id, .int .i64 page, .int .i64 ver, .string data] 38)).alloc (.cells #[.int .i64 id, .int .i64 page] 40))
        have HGA := Lib.hid gA
        have HPA := Lib.hid (HPk.out.grew gA)
        have HA0 := Lib.hid (Blk.new (wm.alloc (.cells #[.int .i64 kind, .int .i64 id, .int .i64 page, .int .i64 ver, .string data] 38)) 40 #[.int .i64 id, .int .i64 page] (n := wm.heap.size + 1) (by simp))
        have HFA := Lib.hid ((((Foot.base HPk.out hsz).grew gA).apart (.slice A4 U.length cU) (fun j hj => ⟨by have := HUL.out j hj; have := gA.size; omega, (HNE.out j hj).1, (HNE.out j hj).2.1, (HNE.out j hj).2.2⟩)).less (wm.heap.size + 1) (by simp) (by omega) (by omega) (fun e => by have := HVL.out _ e; omega))
        clear gA
        by_cases h0 : kind = 0
        · cases hlk : look L (id, page) with
          | none =>
            have HRS2 := Lib.hid (show runR n l (k + 1) = (⟨L, h, ms + 1⟩, U) from by
              rw [HRS.out]; unfold stepR; rw [if_pos h0]; simp only []; rw [hlk])
            obtain ⟨_, ok1, ok2, _⟩ := HOK.out
            have HG := Lib.hid (get_none x m w1.heap.size v n h ms L id page _ _ HPA.out HFA.out (by omega) (by simp; omega) ⟨ok1, ok2⟩ ⟨by omega, by omega⟩ hlk)
            subst h0
            clear hlk
            go_wp2_with fail
            refine HG.out.mono ?_
            rintro e w3 ⟨rfl, ⟨v3, hp3, hF3⟩, hT3⟩
            have HP3 := Lib.hid hp3
            have HU3 := Lib.hid ((HU.out.grew HGA.out).kept hT3 (fun g hg hs => hs.1.2 hg))
            have HN3 := Lib.hid (fun j (hj : (Value.slice A4 U.length cU).ownBlock = some j) => show v3.ownBlock ≠ some j from fun e => (hF3.own j e).1.2 hj)
            have HT3 := Lib.hid ((HTk.out.andGrew HGA.out).trans (hT3.mono (fun j _ hj => hj.1.1)))
            clear hp3 hF3 hT3 HG
            go_wp2_with fail
            go_roundg (l.length - (k + 1))
            case measure => rw [HGK.out]; omega
            case rel => exact ⟨v3, k + 1, by omega, by omega, by go_num, by rw [HRS2.out]; exact HU3.out, fun j hj => ⟨(HNE.out j hj).1, (HNE.out j hj).2.1, HN3.out j hj⟩, by rw [HRS2.out]; exact HP3.out, HT3.out⟩
          | some ct =>
            obtain ⟨cs, cu⟩ := ct
            obtain ⟨s3, hs3⟩ : ∃ s3 : St, s3 = ⟨rmv L (id, page) ++ [((id, page), (cs, cu))], h + 1, ms⟩ := ⟨_, rfl⟩
            have HRN := Lib.hid (show runR n l (k + 1) = (s3, rmvP U (id, page) ++ [(id, page)]) from by
              rw [HRS.out]; unfold stepR; rw [if_pos h0]; simp only []; rw [hlk, hs3])
            obtain ⟨_, ok1, ok2, _⟩ := HOK.out
            have HG0 := (get_some x m w1.heap.size v n h ms L id page cs cu _ _ HPA.out HFA.out (by omega) (by simp; omega) ⟨ok1, ok2⟩ ⟨by omega, by omega⟩ hlk)
            have HG := Lib.hid HG0
            have HE3 := Lib.hid hs3
            subst h0
            clear hlk HG0 hs3
            go_wp2_with fail
            refine HG.out.mono ?_
            rintro e w3 ⟨rfl, ⟨v3, hp3, hF3⟩, hT3⟩
            replace hp3 : PoolM w3 w1.heap.size x m v3 n s3.pages s3.hits s3.misses := by rw [HE3.out]; exact hp3
            have HP3 := Lib.hid hp3
            have hb3 : w1.heap.size ≤ w3.heap.size := by have := hT3.size; have := HGA.out.size; omega
            have HU3 := Lib.hid ((HU.out.grew HGA.out).kept hT3 (fun g hg hs => hs.1.2 hg))
            have HA3 := Lib.hid (HA0.out.turned hT3 (fun hs => hs.2 rfl))
            have HT3 := Lib.hid ((HTk.out.andGrew HGA.out).trans (hT3.mono (fun j _ hj => hj.1.1)))
            have hx3 := hp3.blk.lt
            have hm3 := hp3.map.lt
            have HV3 := Lib.hid (fun j (hj : v3.ownBlock = some j) => (hp3.own.own_ge hj).2)
            have hul3 : U.length ≤ 60 := by omega
            have HR0 := Lib.hid (OwnL.empty w3 w3.heap.size 40 2 (Nat.le_refl _) rfl)
            clear hp3 hF3 hT3 HG
            go_wp2_with fail
            go_loopg [12, 69] U.length (fun gk rv i wq => ∃ q : Nat, q ≤ U.length ∧ gk = U.length - q ∧ i = .int .i64 q ∧ OwnL wq w3.heap.size 40 2 rv ((rmvP (U.take q) (id, page)).map placeC) ∧ Grew w3 wq)
            case atStart => exact ⟨0, by omega, by omega, rfl, by simpa [rmvP] using HR0.out, (Grew.refl _).alloc _⟩
            case round =>
              obtain ⟨q, hq, hgk, rfl, hown, hgq⟩ := hrel
              have HGK2 := Lib.hid hgk
              have HGQ := Lib.hid hgq
              have hsq := hgq.size
              have hA3 := HA3.out.grew hgq
              have a0 := hA3.cell 0
              have a1 := hA3.cell 1
              have hal := hA3.lt
              have hfl := rmvP_le (U.take q) (id, page)
              rw [List.length_take] at hfl
              clear hgk hgq hA3
              by_cases hql : q < U.length
              · have hUq := HU3.out.grew HGQ.out
                rcases hUq.form with ⟨hv, h0⟩ | ⟨g, gc, hv, hbg, hgl, hgc, hgcm⟩
                · exfalso
                  have := congrArg List.length h0
                  rw [placeC_len] at this
                  simp only [List.length_nil] at this
                  omega
                · rw [placeC_len] at hv hgc
                  injection hv with e1 _ e3
                  subst e1; subst e3
                  obtain ⟨p0, p1⟩ := own_place hUq hql
                  have hTK : U.take (q + 1) = U.take q ++ [U[q]] := List.take_succ_eq_append_getElem hql
                  obtain ⟨pl, hpq⟩ : ∃ pl, U[q] = pl := ⟨_, rfl⟩
                  rw [hpq] at p0 p1 hTK
                  obtain ⟨pa, pb⟩ := pl
                  simp only at p0 p1
                  have HFE := Lib.hid (show rmvP (U.take (q + 1)) (id, page) = rmvP (U.take q) (id, page) ++ (if (pa, pb) = (id, page) then [] else [(pa, pb)]) from by
                    unfold rmvP
                    rw [hTK, List.filter_append]
                    by_cases he : ((pa, pb) : Place) = (id, page) <;> simp [he])
                  clear hTK hpq hUq
                  by_cases hpa : pa = id
                  · by_cases hpb : pb = page
                    · have HOW := Lib.hid hown
                      have HFE2 := Lib.hid (HFE.out.trans (by rw [if_pos (by rw [hpa, hpb]), List.append_nil]))
                      subst hpa; subst hpb
                      clear hown HFE
                      go_wp2_with fail
                      go_roundg (U.length - (q + 1))
                      case measure => rw [HGK2.out]; omega
                      case rel => exact ⟨q + 1, by omega, by omega, by go_num, by rw [HFE2.out]; exact HOW.out.alloc _, HGQ.out.alloc _⟩
                    · have HFE2 := Lib.hid (HFE.out.trans (by rw [if_neg (fun e => hpb (congrArg Prod.snd e))]))
                      have hpb' : (pb == page) = false := beq_eq_false_iff_ne.2 hpb
                      have hpb2 : (pb != page) = true := bne_iff_ne.2 hpb
                      replace hpa := hpa.symm
                      subst hpa
                      clear HFE hpb
                      go_wp2_with (at_builtin; refine wpList_push2 rfl _ _ 28 rfl w3.heap.size 40 2 16 _ Try.underlying28 info_place rfl (by decide) _ _ ((rmvP (U.take q) (id, page)).map placeC) (placeC (id, pb)) rfl rfl ((hown.alloc _).alloc _) (wr.heap.size + 1) (by rfl) (Blk.new _ _ _ (by simp)) rfl (by rw [placeC_len]; omega) (by rw [placeC_len]; omega) (by simp; omega) _ (placeC_len _) ?_; intro g5 cap5 w5 hown5 hgr5 hat5 hg5)
                      have hg5 := Grew.own ((HGQ.out.alloc (.cells #[.int .i64 id, .int .i64 pb] 40)).alloc (.cells #[.int .i64 id, .int .i64 pb] 40)) hgr5 hown.row_ge (Nat.le_refl _)
                      go_roundg (U.length - (q + 1))
                      case measure => rw [HGK2.out]; omega
                      case rel => exact ⟨q + 1, by omega, by omega, by go_num, by rw [HFE2.out, List.map_append]; exact hown5, hg5⟩
                  · have HFE2 := Lib.hid (HFE.out.trans (by rw [if_neg (fun e => hpa (congrArg Prod.fst e))]))
                    have hpa' : (pa == id) = false := beq_eq_false_iff_ne.2 hpa
                    have hpa2 : (pa != id) = true := bne_iff_ne.2 hpa
                    clear HFE hpa
                    go_wp2_with (at_builtin; refine wpList_push2 rfl _ _ 28 rfl w3.heap.size 40 2 16 _ Try.underlying28 info_place rfl (by decide) _ _ ((rmvP (U.take q) (id, page)).map placeC) (placeC (pa, pb)) rfl rfl ((hown.alloc _).alloc _) (wr.heap.size + 1) (by rfl) (Blk.new _ _ _ (by simp)) rfl (by rw [placeC_len]; omega) (by rw [placeC_len]; omega) (by simp; omega) _ (placeC_len _) ?_; intro g5 cap5 w5 hown5 hgr5 hat5 hg5)
                    have hg5 := Grew.own ((HGQ.out.alloc (.cells #[.int .i64 pa, .int .i64 pb] 40)).alloc (.cells #[.int .i64 pa, .int .i64 pb] 40)) hgr5 hown.row_ge (Nat.le_refl _)
                    go_roundg (U.length - (q + 1))
                    case measure => rw [HGK2.out]; omega
                    case rel => exact ⟨q + 1, by omega, by omega, by go_num, by rw [HFE2.out, List.map_append]; exact hown5, hg5⟩
              · obtain rfl : q = U.length := by omega
                rw [List.take_length] at hown hfl
                go_wp2_with (at_builtin; (refine wpList_push2 rfl _ _ 28 rfl w3.heap.size 40 2 16 _ Try.underlying28 info_place rfl (by decide) _ _ ((rmvP U (id, page)).map placeC) (placeC (id, page)) rfl rfl (hown.alloc _) wr.heap.size (by rfl) (Blk.new _ _ _ rfl) rfl (by rw [placeC_len]; omega) (by rw [placeC_len]; omega) (by simp; omega) _ (placeC_len _) ?_); intro g5 cap5 w5 hown5 hgr5 hat5 hg5)
                have hg5' := Grew.own (HGQ.out.alloc (.cells #[.int .i64 id, .int .i64 page] 40)) hgr5 hown.row_ge (Nat.le_refl _)
                have hge5 := fun j (hj : (Value.slice (some ⟨g5, 0, none⟩) ((rmvP U (id, page)).length + 1) cap5).ownBlock = some j) => (hown5.own_ge hj).1
                go_roundg (l.length - (k + 1))
                case measure => rw [HGK.out]; omega
                case rel =>
                  refine ⟨v3, k + 1, by omega, by omega, by go_num, ?_, fun j hj => ?_, ?_, HT3.out.andGrew hg5'⟩
                  · rw [HRN.out]
                    have := hown5.rebase hb3
                    simpa using this
                  · have h5 := hge5 j hj
                    exact ⟨by omega, by omega, fun e => by have := HV3.out j e; omega⟩
                  · rw [HRN.out]; exact HP3.out.grew hg5'

        · by_cases h1 : kind = 1
          · obtain ⟨s3, hs3⟩ : ∃ s3 : St, s3 = stepO n ⟨L, h, ms⟩ ⟨kind, id, page, ver, data⟩ := ⟨_, rfl⟩
            have HRN := Lib.hid (show runR n l (k + 1) = (s3, rmvP U (id, page) ++ [(id, page)]) from by
              rw [HRS.out, hs3]; unfold stepR stepO; rw [if_neg h0, if_pos h1, if_neg h0, if_pos h1])
            have HG0 := (do_any x m w1.heap.size v n ⟨L, h, ms⟩ k ⟨kind, id, page, ver, data⟩ _ _ HPA.out HFA.out HSD.out (by omega) ⟨by omega, by omega⟩ (by simp; omega) HOK.out)
            rw [← hs3] at HG0
            have HG := Lib.hid HG0
            subst h1
            clear HG0 hs3 h0
            go_wp2_with fail
            refine HG.out.mono ?_
            rintro e w3 ⟨rfl, ⟨v3, hp3, hF3⟩, hT3⟩
            have HP3 := Lib.hid hp3
            have hb3 : w1.heap.size ≤ w3.heap.size := by have := hT3.size; have := HGA.out.size; omega
            have HU3 := Lib.hid ((HU.out.grew HGA.out).kept hT3 (fun g hg hs => hs.1.2 hg))
            have HA3 := Lib.hid (HA0.out.turned hT3 (fun hs => hs.2 rfl))
            have HT3 := Lib.hid ((HTk.out.andGrew HGA.out).trans (hT3.mono (fun j _ hj => hj.1.1)))
            have hx3 := hp3.blk.lt
            have hm3 := hp3.map.lt
            have HV3 := Lib.hid (fun j (hj : v3.ownBlock = some j) => (hp3.own.own_ge hj).2)
            have hul3 : U.length ≤ 60 := by omega
            have HR0 := Lib.hid (OwnL.empty w3 w3.heap.size 40 2 (Nat.le_refl _) rfl)
            clear hp3 hF3 hT3 HG
            go_wp2_with fail
            go_loopg [12, 69] U.length (fun gk rv i wq => ∃ q : Nat, q ≤ U.length ∧ gk = U.length - q ∧ i = .int .i64 q ∧ OwnL wq w3.heap.size 40 2 rv ((rmvP (U.take q) (id, page)).map placeC) ∧ Grew w3 wq)
            case atStart => exact ⟨0, by omega, by omega, rfl, by simpa [rmvP] using HR0.out, (Grew.refl _).alloc _⟩
            case round =>
              obtain ⟨q, hq, hgk, rfl, hown, hgq⟩ := hrel
              have HGK2 := Lib.hid hgk
              have HGQ := Lib.hid hgq
              have hsq := hgq.size
              have hA3 := HA3.out.grew hgq
              have a0 := hA3.cell 0
              have a1 := hA3.cell 1
              have hal := hA3.lt
              have hfl := rmvP_le (U.take q) (id, page)
              rw [List.length_take] at hfl
              clear hgk hgq hA3
              by_cases hql : q < U.length
              · have hUq := HU3.out.grew HGQ.out
                rcases hUq.form with ⟨hv, h0⟩ | ⟨g, gc, hv, hbg, hgl, hgc, hgcm⟩
                · exfalso
                  have := congrArg List.length h0
                  rw [placeC_len] at this
                  simp only [List.length_nil] at this
                  omega
                · rw [placeC_len] at hv hgc
                  injection hv with e1 _ e3
                  subst e1; subst e3
                  obtain ⟨p0, p1⟩ := own_place hUq hql
                  have hTK : U.take (q + 1) = U.take q ++ [U[q]] := List.take_succ_eq_append_getElem hql
                  obtain ⟨pl, hpq⟩ : ∃ pl, U[q] = pl := ⟨_, rfl⟩
                  rw [hpq] at p0 p1 hTK
                  obtain ⟨pa, pb⟩ := pl
                  simp only at p0 p1
                  have HFE := Lib.hid (show rmvP (U.take (q + 1)) (id, page) = rmvP (U.take q) (id, page) ++ (if (pa, pb) = (id, page) then [] else [(pa, pb)]) from by
                    unfold rmvP
                    rw [hTK, List.filter_append]
                    by_cases he : ((pa, pb) : Place) = (id, page) <;> simp [he])
                  clear hTK hpq hUq
                  by_cases hpa : pa = id
                  · by_cases hpb : pb = page
                    · have HOW := Lib.hid hown
                      have HFE2 := Lib.hid (HFE.out.trans (by rw [if_pos (by rw [hpa, hpb]), List.append_nil]))
                      subst hpa; subst hpb
                      clear hown HFE
                      go_wp2_with fail
                      go_roundg (U.length - (q + 1))
                      case measure => rw [HGK2.out]; omega
                      case rel => exact ⟨q + 1, by omega, by omega, by go_num, by rw [HFE2.out]; exact HOW.out.alloc _, HGQ.out.alloc _⟩
                    · have HFE2 := Lib.hid (HFE.out.trans (by rw [if_neg (fun e => hpb (congrArg Prod.snd e))]))
                      have hpb' : (pb == page) = false := beq_eq_false_iff_ne.2 hpb
                      have hpb2 : (pb != page) = true := bne_iff_ne.2 hpb
                      replace hpa := hpa.symm
                      subst hpa
                      clear HFE hpb
                      go_wp2_with (at_builtin; refine wpList_push2 rfl _ _ 28 rfl w3.heap.size 40 2 16 _ Try.underlying28 info_place rfl (by decide) _ _ ((rmvP (U.take q) (id, page)).map placeC) (placeC (id, pb)) rfl rfl ((hown.alloc _).alloc _) (wr.heap.size + 1) (by rfl) (Blk.new _ _ _ (by simp)) rfl (by rw [placeC_len]; omega) (by rw [placeC_len]; omega) (by simp; omega) _ (placeC_len _) ?_; intro g5 cap5 w5 hown5 hgr5 hat5 hg5)
                      have hg5 := Grew.own ((HGQ.out.alloc (.cells #[.int .i64 id, .int .i64 pb] 40)).alloc (.cells #[.int .i64 id, .int .i64 pb] 40)) hgr5 hown.row_ge (Nat.le_refl _)
                      go_roundg (U.length - (q + 1))
                      case measure => rw [HGK2.out]; omega
                      case rel => exact ⟨q + 1, by omega, by omega, by go_num, by rw [HFE2.out, List.map_append]; exact hown5, hg5⟩
                  · have HFE2 := Lib.hid (HFE.out.trans (by rw [if_neg (fun e => hpa (congrArg Prod.fst e))]))
                    have hpa' : (pa == id) = false := beq_eq_false_iff_ne.2 hpa
                    have hpa2 : (pa != id) = true := bne_iff_ne.2 hpa
                    clear HFE hpa
                    go_wp2_with (at_builtin; refine wpList_push2 rfl _ _ 28 rfl w3.heap.size 40 2 16 _ Try.underlying28 info_place rfl (by decide) _ _ ((rmvP (U.take q) (id, page)).map placeC) (placeC (pa, pb)) rfl rfl ((hown.alloc _).alloc _) (wr.heap.size + 1) (by rfl) (Blk.new _ _ _ (by simp)) rfl (by rw [placeC_len]; omega) (by rw [placeC_len]; omega) (by simp; omega) _ (placeC_len _) ?_; intro g5 cap5 w5 hown5 hgr5 hat5 hg5)
                    have hg5 := Grew.own ((HGQ.out.alloc (.cells #[.int .i64 pa, .int .i64 pb] 40)).alloc (.cells #[.int .i64 pa, .int .i64 pb] 40)) hgr5 hown.row_ge (Nat.le_refl _)
                    go_roundg (U.length - (q + 1))
                    case measure => rw [HGK2.out]; omega
                    case rel => exact ⟨q + 1, by omega, by omega, by go_num, by rw [HFE2.out, List.map_append]; exact hown5, hg5⟩
              · obtain rfl : q = U.length := by omega
                rw [List.take_length] at hown hfl
                go_wp2_with (at_builtin; (refine wpList_push2 rfl _ _ 28 rfl w3.heap.size 40 2 16 _ Try.underlying28 info_place rfl (by decide) _ _ ((rmvP U (id, page)).map placeC) (placeC (id, page)) rfl rfl (hown.alloc _) wr.heap.size (by rfl) (Blk.new _ _ _ rfl) rfl (by rw [placeC_len]; omega) (by rw [placeC_len]; omega) (by simp; omega) _ (placeC_len _) ?_); intro g5 cap5 w5 hown5 hgr5 hat5 hg5)
                have hg5' := Grew.own (HGQ.out.alloc (.cells #[.int .i64 id, .int .i64 page] 40)) hgr5 hown.row_ge (Nat.le_refl _)
                have hge5 := fun j (hj : (Value.slice (some ⟨g5, 0, none⟩) ((rmvP U (id, page)).length + 1) cap5).ownBlock = some j) => (hown5.own_ge hj).1
                go_roundg (l.length - (k + 1))
                case measure => rw [HGK.out]; omega
                case rel =>
                  refine ⟨v3, k + 1, by omega, by omega, by go_num, ?_, fun j hj => ?_, ?_, HT3.out.andGrew hg5'⟩
                  · rw [HRN.out]
                    have := hown5.rebase hb3
                    simpa using this
                  · have h5 := hge5 j hj
                    exact ⟨by omega, by omega, fun e => by have := HV3.out j e; omega⟩
                  · rw [HRN.out]; exact HP3.out.grew hg5'

          · have HRS2 := Lib.hid (show runR n l (k + 1) = (⟨L, h, ms⟩, U) from by
              rw [HRS.out]; unfold stepR; rw [if_neg h0, if_neg h1])
            have b0 : (kind == 0) = false := beq_eq_false_iff_ne.2 h0
            have b1 : (kind == 1) = false := beq_eq_false_iff_ne.2 h1
            clear h0 h1
            go_wp2_with fail
            go_roundg (l.length - (k + 1))
            case measure => rw [HGK.out]; omega
            case rel => exact ⟨v, k + 1, by omega, by omega, by go_num, by rw [HRS2.out]; exact HU.out.grew HGA.out, HNE.out, by rw [HRS2.out]; exact HPA.out, HTk.out.andGrew HGA.out⟩
      · obtain rfl : k = l.length := by omega
        have hkl := lastN_len n U
        rw [← HKU.out, keys_len] at hkl
        by_cases hle : U.length ≤ n
        · have hD : L.length = U.length := by rw [Nat.min_eq_right (by omega)] at hkl; exact hkl
          go_wp2_with fail
          refine (places_any HPk.out (by omega)).mono ?_
          rintro e w4 ⟨b4, rfl, hown4, g4⟩
          obtain ⟨A5, c5, hv5, hc5, _, _⟩ := hown4.listAt
          rw [placeC_len, keys_len, hD] at hv5 hc5
          subst hv5
          have HO4 := Lib.hid hown4
          have HU4 := Lib.hid (HU.out.grew g4)
          have HT4 := Lib.hid (HTk.out.andGrew g4)
          have HDD := Lib.hid hD
          clear hown4 g4 hD hkl
          go_wp2_with fail
          go_loopg [102] U.length (fun gk i wq => ∃ q : Nat, q ≤ U.length ∧ gk = U.length - q ∧ i = .int .i64 q ∧ OwnL wq w1.heap.size 40 2 (.slice A4 U.length cU) (U.map placeC) ∧ OwnL wq wm.heap.size 40 2 (.slice A5 U.length c5) ((keys L).map placeC) ∧ Turned (fun j => w1.heap.size ≤ j) w1 wq)
          case atStart => exact ⟨0, by omega, by omega, rfl, HU4.out, HO4.out, HT4.out⟩
          case round =>
            obtain ⟨q, hq, hgk, rfl, hR, hO, hT⟩ := hrel
            have HGK2 := Lib.hid hgk
            have HRq := Lib.hid hR
            have HOq := Lib.hid hO
            have HTq := Lib.hid hT
            clear hgk hT
            by_cases hql : q < U.length
            · have hqU : q < U.length := by omega
              have hqK : q < (keys L).length := by rw [keys_len, HDD.out]; exact hql
              rcases hR.form with ⟨hv, h0⟩ | ⟨g, gc, hv, hbg, hgl, hgc, hgcm⟩
              · exfalso
                have := congrArg List.length h0
                rw [placeC_len] at this
                simp only [List.length_nil] at this
                omega
              · rcases hO.form with ⟨hv', h0⟩ | ⟨g', gc', hv', hbg', hgl', hgc', hgcm'⟩
                · exfalso
                  have := congrArg List.length h0
                  rw [placeC_len, keys_len, HDD.out] at this
                  simp only [List.length_nil] at this
                  omega
                · rw [placeC_len] at hv hgc
                  rw [placeC_len, keys_len, HDD.out] at hv' hgc'
                  injection hv with e1 _ e3
                  injection hv' with e1' _ e3'
                  subst e1; subst e3; subst e1'; subst e3'
                  obtain ⟨p0, p1⟩ := own_place hR hqU
                  obtain ⟨p2, p3⟩ := own_place hO hqK
                  have he : (keys L)[q] = U[q] := by
                    have h1 : (keys L)[q]? = U[q]? := by rw [HKU.out]; unfold lastN; rw [show U.length - n = 0 from by omega, List.drop_zero]
                    rw [List.getElem?_eq_getElem hqU, List.getElem?_eq_getElem hqK] at h1
                    exact Option.some.inj h1
                  obtain ⟨⟨pa, pb⟩, hpq⟩ : ∃ pl, U[q] = pl := ⟨_, rfl⟩
                  rw [he.trans hpq] at p2 p3
                  rw [hpq] at p0 p1
                  simp only at p0 p1 p2 p3
                  clear hpq he hR hO
                  go_wp2_with fail
                  go_quiet (fail)
                  go_wp2_with fail
                  go_roundg (U.length - (q + 1))
                  case measure => rw [HGK2.out]; omega
                  case rel => exact ⟨q + 1, by omega, by omega, by go_num, HRq.out.drewN _, HOq.out.drewN _, HTq.out.drewN _⟩
            · obtain rfl : q = U.length := by omega
              go_wp2_with fail
              go_ret
              exact ⟨rfl, g1.trans HTq.out.toGrew⟩
        · have hD : L.length = n := by rw [Nat.min_eq_left (by omega)] at hkl; exact hkl
          have hnn : U.length - (U.length - n) = n := by omega
          obtain ⟨gu, rfl⟩ : ∃ gu, A4 = some ⟨gu, 0, none⟩ := by
            rcases HU.out.form with ⟨hv, h0⟩ | ⟨g, gc, hv, _⟩
            · exfalso
              have := congrArg List.length h0
              rw [placeC_len] at this
              simp only [List.length_nil] at this
              omega
            · injection hv with hv _ _
              exact ⟨g, hv⟩
          go_wp2_with fail
          refine (places_any HPk.out (by omega)).mono ?_
          rintro e w4 ⟨b4, rfl, hown4, g4⟩
          obtain ⟨A5, c5, hv5, hc5, _, _⟩ := hown4.listAt
          rw [placeC_len, keys_len, hD] at hv5 hc5
          subst hv5
          have HO4 := Lib.hid hown4
          have HU4 := Lib.hid (HU.out.grew g4)
          have HT4 := Lib.hid (HTk.out.andGrew g4)
          have HDD := Lib.hid hD
          clear hown4 g4 hD hkl
          go_wp2_with fail
          go_loopg [102] n (fun gk i wq => ∃ q : Nat, q ≤ n ∧ gk = n - q ∧ i = .int .i64 q ∧ OwnL wq w1.heap.size 40 2 (.slice (some ⟨gu, 0, none⟩) U.length cU) (U.map placeC) ∧ OwnL wq wm.heap.size 40 2 (.slice A5 n c5) ((keys L).map placeC) ∧ Turned (fun j => w1.heap.size ≤ j) w1 wq)
          case atStart => exact ⟨0, by omega, by omega, rfl, HU4.out, HO4.out, HT4.out⟩
          case round =>
            obtain ⟨q, hq, hgk, rfl, hR, hO, hT⟩ := hrel
            have HGK2 := Lib.hid hgk
            have HRq := Lib.hid hR
            have HOq := Lib.hid hO
            have HTq := Lib.hid hT
            clear hgk hT
            by_cases hql : q < n
            · have hqU : U.length - n + q < U.length := by omega
              have hqK : q < (keys L).length := by rw [keys_len, HDD.out]; exact hql
              rcases hR.form with ⟨hv, h0⟩ | ⟨g, gc, hv, hbg, hgl, hgc, hgcm⟩
              · exfalso
                have := congrArg List.length h0
                rw [placeC_len] at this
                simp only [List.length_nil] at this
                omega
              · rcases hO.form with ⟨hv', h0⟩ | ⟨g', gc', hv', hbg', hgl', hgc', hgcm'⟩
                · exfalso
                  have := congrArg List.length h0
                  rw [placeC_len, keys_len, HDD.out] at this
                  simp only [List.length_nil] at this
                  omega
                · rw [placeC_len] at hv hgc
                  rw [placeC_len, keys_len, HDD.out] at hv' hgc'
                  injection hv with e1 _ e3
                  injection hv' with e1' _ e3'
                  injection e1 with e1; injection e1 with e1 _ _; subst e1; subst e3; subst e1'; subst e3'
                  obtain ⟨p0, p1⟩ := own_place hR hqU
                  obtain ⟨p2, p3⟩ := own_place hO hqK
                  have he : (keys L)[q] = U[U.length - n + q] := by
                    have h1 : (keys L)[q]? = U[U.length - n + q]? := by rw [HKU.out]; unfold lastN; rw [List.getElem?_drop]
                    rw [List.getElem?_eq_getElem hqU, List.getElem?_eq_getElem hqK] at h1
                    exact Option.some.inj h1
                  obtain ⟨⟨pa, pb⟩, hpq⟩ : ∃ pl, U[U.length - n + q] = pl := ⟨_, rfl⟩
                  rw [he.trans hpq] at p2 p3
                  rw [hpq] at p0 p1
                  simp only at p0 p1 p2 p3
                  rw [Nat.add_mul] at p0 p1
                  clear hpq he hR hO
                  go_wp2_with fail
                  go_quiet (fail)
                  go_wp2_with fail
                  go_roundg (n - (q + 1))
                  case measure => rw [HGK2.out]; omega
                  case rel => exact ⟨q + 1, by omega, by omega, by go_num, HRq.out.drewN _, HOq.out.drewN _, HTq.out.drewN _⟩
            · obtain rfl : q = n := by omega
              go_wp2_with fail
              go_ret
              exact ⟨rfl, g1.trans HTq.out.toGrew⟩
end Go.Proofs.Ytfmhiocigoejjaa
