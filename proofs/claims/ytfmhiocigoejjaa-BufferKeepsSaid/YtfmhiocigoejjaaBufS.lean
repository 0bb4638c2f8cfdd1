/- BufferKeeps' walk. -/
import Derived.Test.YtfmhiocigoejjaaBufR
namespace Go.Proofs.Ytfmhiocigoejjaa
set_option linter.unusedVariables false
set_option linter.unusedSimpArgs false
set_option linter.unusedSectionVars false
open Go.RowKit
open Go.Maps (Keyed)
set_option maxRecDepth 100000 in
set_option maxHeartbeats 8000000 in
theorem bufferKeeps_any (c : Nat) (hc : c < 256) (A : Option Addr) (cc : Nat) (l : List Opn) (w : World) (hl : l.length ≤ 9223372036854775807) (hv : OpsAt w w.heap.size A l) :
    Calls Try.prog 6 #[.int .u8 (c : Int), .slice A l.length cc] w fun e w' => e = .returned (.bool true) ∧ Grew w w' := by
  have HV := Lib.hid hv
  clear hv
  have hmm := @run_makeMap Try.prog
  cases hf : fewO l with
  | false =>
    have HFW := Lib.hid hf
    clear hf
    go_enter Try.func6, Try.ntmps6
    go_wp2_with fail
    refine (awake_any _).mono ?_
    rintro e w1 ⟨rfl, g1⟩
    go_wp2_with fail
    refine (few_any A cc l w1 _ (HV.out.hold (Nat.le_refl _) g1) hl).mono ?_
    rintro e w2 ⟨rfl, rfl⟩
    rw [HFW.out]
    go_wp2_with fail
    go_ret
    exact ⟨rfl, g1⟩
  | true =>
    have hl60 := fewO_len hf
    have HFW := Lib.hid hf
    clear hf
    go_enter Try.func6, Try.ntmps6
    go_wp2_with fail
    refine (awake_any _).mono ?_
    rintro e w1 ⟨rfl, g1⟩
    go_wp2_with fail
    refine (few_any A cc l w1 _ (HV.out.hold (Nat.le_refl _) g1) hl).mono ?_
    rintro e w2 ⟨rfl, rfl⟩
    rw [HFW.out]
    go_wp2_with fail
    refine (start_any c hc w1).mono ?_
    rintro e w2 ⟨x, m, n, hn, rfl, hp, g2⟩
    have hF := Foot.base hp g2.size
    have hn1 : 1 ≤ n ∧ n ≤ 8 := by omega
    obtain ⟨hn1, hn8⟩ := hn1
    have hT := g2.turned (fun k => w1.heap.size ≤ k)
    have HP := Lib.hid hp
    have HF := Lib.hid hF
    have HT := Lib.hid hT
    have HSD := Lib.hid (runO_sound (n : Int) l (by omega))
    clear hp hF hT g2 hn
    go_wp2_with fail
    clear hmm
    have hx2 := HP.out.blk.lt
    have hm2 := HP.out.map.lt
    have hbl : w1.heap.size ≤ w2.heap.size := HT.out.size
    go_loopg [28] l.length (fun gk i wr => ∃ v, ∃ k : Nat, k ≤ l.length ∧ gk = l.length - k ∧ i = .int .i64 k ∧ MapP wr w2.heap.size (runF l k) ∧ v.ownBlock ≠ some w2.heap.size ∧ Keeps (runO n l k).pages (runF l k) ∧ PoolM wr w1.heap.size x m v n (runO n l k).pages (runO n l k).hits (runO n l k).misses ∧ Turned (fun j => w1.heap.size ≤ j) w1 wr)
    case atStart => exact ⟨_, 0, by omega, by omega, rfl, MapIs.made _ rfl, by simp [Value.ownBlock], fun p c h => by simp [runO, look] at h, HP.out.grew ((Grew.refl _).alloc _), HT.out.alloc _⟩
    case round =>
      obtain ⟨v, k, hk, hgk, rfl, hM, hvm, hK, hp, hT⟩ := hrel
      obtain ⟨wm, hwm⟩ : ∃ wm, wm = wr := ⟨_, rfl⟩
      subst hwm
      have HGK := Lib.hid hgk
      have HTk := Lib.hid hT
      have HSDk := Lib.hid (HSD.out k)
      obtain ⟨s, hs⟩ : ∃ s, runO n l k = s := ⟨_, rfl⟩
      have hsd := HSD.out k
      rw [hs] at hsd hp hK
      have HS := Lib.hid hs
      have HSDs := Lib.hid hsd
      obtain ⟨L, h, ms⟩ := s
      obtain ⟨d1, d2, d3, d4, d5⟩ := hsd
      simp only at hp hK d1 d2 d3 d4 d5
      have HM := Lib.hid hM
      have HK := Lib.hid hK
      have HPk := Lib.hid hp
      have HVM := Lib.hid hvm
      have hsz := hT.size
      have hmlt := hM.lt
      have hxl := hp.blk.lt
      have hml' := hp.map.lt
      have HVL := Lib.hid (fun j (hj : v.ownBlock = some j) => (hp.own.own_ge hj).2)
      have hL8 : L.length ≤ 8 := by omega
      clear hgk hp hT hs hM hK hvm HSDk
      by_cases hlt : k < l.length
      · obtain ⟨b, off, rfl, hb, hok, c0, c1, c2, c3, c4⟩ := (HV.out.hold (Nat.le_refl _) (g1.trans HTk.out.toGrew)).at_ hlt
        obtain ⟨t, ht⟩ : ∃ t, t = l[k] := ⟨_, rfl⟩
        have HRS := Lib.hid (show runO n l (k + 1) = stepO n ⟨L, h, ms⟩ t from by rw [runO_succ _ _ _ hlt, ← ht, HS.out])
        have HRF := Lib.hid (show runF l (k + 1) = stepF (runF l k) t from by rw [runF_succ _ _ hlt, ← ht])
        rw [← ht] at c0 c1 c2 c3 c4 hok
        have HOK := Lib.hid hok
        have HK1 := Lib.hid (Keeps.step (s := ⟨L, h, ms⟩) HK.out HPk.out.nd n t)
        have hsd1 := HSDs.out.step (by omega) t
        clear ht hok
        obtain ⟨s3, hs3⟩ : ∃ s3 : St, s3 = stepO n ⟨L, h, ms⟩ t := ⟨_, rfl⟩
        rw [← hs3] at hsd1
        have hD1 := hsd1.1
        have HE3 := Lib.hid hs3
        obtain ⟨D, hD⟩ : ∃ D, s3.pages.length = D := ⟨_, rfl⟩
        rw [hD] at hD1
        have HDD := Lib.hid hD
        clear hs3 hsd1 hD
        obtain ⟨kind, id, page, ver, data⟩ := t
        simp only at c0 c1 c2 c3 c4
        have gA := ((Grew.refl wm).alloc (.cells #[.int .i64 kind, .int .i64 id, .int .i64 page, .int .i64 ver, .string data] 38))
        have HGA := Lib.hid gA
        have HPA := Lib.hid (HPk.out.grew gA)
        have HA0 := Lib.hid (Blk.new wm 38 #[.int .i64 kind, .int .i64 id, .int .i64 page, .int .i64 ver, .string data] rfl)
        have HFA := Lib.hid ((((Foot.base HPk.out hsz).grew gA).less w2.heap.size (by simp; omega) (by omega) (by omega) HVM.out).less wm.heap.size (by simp) (by omega) (by omega) (fun e => by have := HVL.out _ e; omega))
        clear gA
        by_cases h0 : kind = 0
        · cases hlk : look L (id, page) with
          | none =>
            obtain ⟨_, ok1, ok2, _⟩ := HOK.out
            have HE4 := Lib.hid (show s3 = ⟨L, h, ms + 1⟩ from by rw [HE3.out]; unfold stepO; rw [if_pos h0]; simp only []; rw [hlk])
            have HF1 := Lib.hid (show stepF (runF l k) ⟨kind, id, page, ver, data⟩ = runF l k from by unfold stepF; rw [if_neg (by simp only []; omega)])
            have HG := Lib.hid (get_none x m w1.heap.size v n h ms L id page _ _ HPA.out HFA.out (by omega) (by simp; omega) ⟨ok1, ok2⟩ ⟨by omega, by omega⟩ hlk)
            subst h0
            clear hlk
            go_wp2_with fail
            refine HG.out.mono ?_
            rintro e w3 ⟨rfl, ⟨v3, hp3, hF3⟩, hT3⟩
            have HP3 := Lib.hid hp3
            have HM3 := Lib.hid ((HM.out.grew HGA.out).turned hT3 (fun hs => hs.1.2 rfl))
            have HN3 := Lib.hid (show v3.ownBlock ≠ some w2.heap.size from fun e => (hF3.own _ e).1.2 rfl)
            have hA3 := HA0.out.turned hT3 (fun hs => hs.2 rfl)
            have HT3 := Lib.hid ((HTk.out.andGrew HGA.out).trans (hT3.mono (fun j _ hj => hj.1.1)))
            have a1 := hA3.cell 1
            have a2 := hA3.cell 2
            have al := hA3.lt
            clear hp3 hF3 hT3 HG hA3
            go_wp2_with fail
            go_roundg (l.length - (k + 1))
            case measure => rw [HGK.out]; omega
            case rel => exact ⟨v3, k + 1, by omega, by omega, by go_num, by rw [HRF.out, HF1.out]; exact HM3.out, HN3.out, by rw [HRS.out, HRF.out]; exact HK1.out, by rw [HRS.out, ← HE3.out, HE4.out]; exact HP3.out, HT3.out⟩
          | some ct =>
            obtain ⟨cs, cu⟩ := ct
            obtain ⟨_, ok1, ok2, _⟩ := HOK.out
            have HE4 := Lib.hid (show s3 = ⟨rmv L (id, page) ++ [((id, page), (cs, cu))], h + 1, ms⟩ from by rw [HE3.out]; unfold stepO; rw [if_pos h0]; simp only []; rw [hlk])
            have HF1 := Lib.hid (show stepF (runF l k) ⟨kind, id, page, ver, data⟩ = runF l k from by unfold stepF; rw [if_neg (by simp only []; omega)])
            have HFK := Lib.hid (HK.out (id, page) (cs, cu) hlk)
            have HG := Lib.hid (get_some x m w1.heap.size v n h ms L id page cs cu _ _ HPA.out HFA.out (by omega) (by simp; omega) ⟨ok1, ok2⟩ ⟨by omega, by omega⟩ hlk)
            subst h0
            clear hlk
            go_wp2_with fail
            refine HG.out.mono ?_
            rintro e w3 ⟨rfl, ⟨v3, hp3, hF3⟩, hT3⟩
            have HP3 := Lib.hid hp3
            have hM3 := ((HM.out.grew HGA.out).turned hT3 (fun hs => hs.1.2 rfl))
            have HM3 := Lib.hid hM3
            have hlkv : (Instr.lookup 47 (.map (some w2.heap.size)) (.agg #[.int .i64 id, .int .i64 page]) false).run Try.prog w3 = .ok (.agg #[.string cs, .int .i64 cu]) w3 := by
              obtain ⟨kl, hkey⟩ := place_key (id, page) ⟨ok1, ok2⟩
              have := hM3.lookup_val place_keyed place_inj Try.underlying47 (zero_content2 _) (id, page) hkey
              rw [HFK.out] at this
              exact this
            have HN3 := Lib.hid (show v3.ownBlock ≠ some w2.heap.size from fun e => (hF3.own _ e).1.2 rfl)
            have hA3 := HA0.out.turned hT3 (fun hs => hs.2 rfl)
            have HT3 := Lib.hid ((HTk.out.andGrew HGA.out).trans (hT3.mono (fun j _ hj => hj.1.1)))
            have a1 := hA3.cell 1
            have a2 := hA3.cell 2
            have al := hA3.lt
            clear hp3 hF3 hT3 HG hA3 hM3
            go_wp2_with fail
            go_roundg (l.length - (k + 1))
            case measure => rw [HGK.out]; omega
            case rel => exact ⟨v3, k + 1, by omega, by omega, by go_num, by rw [HRF.out, HF1.out]; exact HM3.out, HN3.out, by rw [HRS.out, HRF.out]; exact HK1.out, by rw [HRS.out, ← HE3.out, HE4.out]; exact HP3.out, HT3.out⟩
        · by_cases h1 : kind = 1
          · have HSO := Lib.hid (show stepO n ⟨L, h, ms⟩ ⟨kind, id, page, ver, data⟩ = s3 from HE3.out.symm)
            have HG0 := (do_any x m w1.heap.size v n ⟨L, h, ms⟩ k ⟨kind, id, page, ver, data⟩ _ _ HPA.out HFA.out HSDs.out (by omega) ⟨by omega, by omega⟩ (by simp; omega) HOK.out)
            rw [HSO.out] at HG0
            have HG := Lib.hid HG0
            obtain ⟨_, ok1, ok2, _⟩ := HOK.out
            have HF1 := Lib.hid (show stepF (runF l k) ⟨1, id, page, ver, data⟩ = upd (runF l k) (id, page) (some (contentV data ver)) from by unfold stepF; rw [if_pos rfl])
            subst h1
            clear HG0 h0
            go_wp2_with fail
            refine HG.out.mono ?_
            rintro e w3 ⟨rfl, ⟨v3, hp3, hF3⟩, hT3⟩
            have HP3 := Lib.hid hp3
            have HM3 := Lib.hid ((HM.out.grew HGA.out).turned hT3 (fun hs => hs.1.2 rfl))
            have HN3 := Lib.hid (show v3.ownBlock ≠ some w2.heap.size from fun e => (hF3.own _ e).1.2 rfl)
            have hA3 := HA0.out.turned hT3 (fun hs => hs.2 rfl)
            have HX3 := Lib.hid (show x ≠ w2.heap.size ∧ m ≠ w2.heap.size from ⟨fun e => hF3.x.1.2 e, fun e => hF3.m.1.2 e⟩)
            have HT3 := Lib.hid ((HTk.out.andGrew HGA.out).trans (hT3.mono (fun j _ hj => hj.1.1)))
            have a0 := hA3.cell 0
            have a1 := hA3.cell 1
            have a2 := hA3.cell 2
            have a3 := hA3.cell 3
            have a4 := hA3.cell 4
            have al := hA3.lt
            clear hp3 hF3 hT3 HG hA3
            obtain ⟨w4, hrun4, hM4, hT4⟩ : ∃ w4, (Instr.mapUpdate 47 (.map (some w2.heap.size)) (.agg #[.int .i64 id, .int .i64 page]) (.agg #[.string data, .int .i64 ver])).run Try.prog w3 = .ok () w4 ∧ MapP w4 w2.heap.size (upd (runF l k) (id, page) (some (contentV data ver))) ∧ Turned (fun j => j = w2.heap.size) w3 w4 := by
              obtain ⟨kl, hkey⟩ := place_key (id, page) ⟨ok1, ok2⟩
              exact HM3.out.update place_keyed place_inj Try.underlying47 (id, page) hkey (contentV data ver)
            have HM4 := Lib.hid hM4
            have HP4 := Lib.hid (HP3.out.kept hT4 (fun e => HX3.out.1 e) (fun e => HX3.out.2 e) (fun g hg e => HN3.out (by rw [hg, e])))
            have HT4 := Lib.hid (HT3.out.trans (hT4.mono (fun j _ hj => by omega)))
            have z4 := hT4.size
            clear hM4 hT4
            go_wp2_with fail
            refine (len_any HP4.out).mono ?_
            rintro e w5 ⟨rfl, rfl⟩
            rw [HDD.out]
            go_wp2_with fail
            refine (len_any HP4.out).mono ?_
            rintro e w5 ⟨rfl, rfl⟩
            rw [HDD.out]
            go_wp2_with fail
            refine (places_any HP4.out (by rw [HDD.out]; omega)).mono ?_
            rintro e w5 ⟨b5, rfl, hown5, g5⟩
            obtain ⟨A5, c5, hv5, hc5, _, _⟩ := hown5.listAt
            rw [placeC_len, keys_len, HDD.out] at hv5 hc5
            subst hv5
            have HG5 := Lib.hid g5
            clear hown5 g5
            go_wp2_with fail
            go_roundg (l.length - (k + 1))
            case measure => rw [HGK.out]; omega
            case rel => exact ⟨v3, k + 1, by omega, by omega, by go_num, by rw [HRF.out, HF1.out]; exact HM4.out.grew HG5.out, HN3.out, by rw [HRS.out, HRF.out]; exact HK1.out, by rw [HRS.out, ← HE3.out]; exact HP4.out.grew HG5.out, HT4.out.andGrew HG5.out⟩
          · have HSO := Lib.hid (show stepO n ⟨L, h, ms⟩ ⟨kind, id, page, ver, data⟩ = s3 from HE3.out.symm)
            have HG0 := (do_any x m w1.heap.size v n ⟨L, h, ms⟩ k ⟨kind, id, page, ver, data⟩ _ _ HPA.out HFA.out HSDs.out (by omega) ⟨by omega, by omega⟩ (by simp; omega) HOK.out)
            rw [HSO.out] at HG0
            have HG := Lib.hid HG0
            obtain ⟨_, ok1, ok2, _⟩ := HOK.out
            have HF1 := Lib.hid (show stepF (runF l k) ⟨kind, id, page, ver, data⟩ = runF l k from by unfold stepF; rw [if_neg h1])
            have b0 : (kind == 0) = false := beq_eq_false_iff_ne.2 h0
            have b1 : (kind == 1) = false := beq_eq_false_iff_ne.2 h1
            clear HG0 h0 h1
            go_wp2_with fail
            refine HG.out.mono ?_
            rintro e w3 ⟨rfl, ⟨v3, hp3, hF3⟩, hT3⟩
            have HP3 := Lib.hid hp3
            have HM3 := Lib.hid ((HM.out.grew HGA.out).turned hT3 (fun hs => hs.1.2 rfl))
            have HN3 := Lib.hid (show v3.ownBlock ≠ some w2.heap.size from fun e => (hF3.own _ e).1.2 rfl)
            have hA3 := HA0.out.turned hT3 (fun hs => hs.2 rfl)
            have HX3 := Lib.hid (show x ≠ w2.heap.size ∧ m ≠ w2.heap.size from ⟨fun e => hF3.x.1.2 e, fun e => hF3.m.1.2 e⟩)
            have HT3 := Lib.hid ((HTk.out.andGrew HGA.out).trans (hT3.mono (fun j _ hj => hj.1.1)))
            have a0 := hA3.cell 0
            have a1 := hA3.cell 1
            have a2 := hA3.cell 2
            have a3 := hA3.cell 3
            have a4 := hA3.cell 4
            have al := hA3.lt
            clear hp3 hF3 hT3 HG hA3
            have HM4 := HM3
            have HP4 := HP3
            have HT4 := HT3
            go_wp2_with fail
            refine (len_any HP4.out).mono ?_
            rintro e w5 ⟨rfl, rfl⟩
            rw [HDD.out]
            go_wp2_with fail
            refine (len_any HP4.out).mono ?_
            rintro e w5 ⟨rfl, rfl⟩
            rw [HDD.out]
            go_wp2_with fail
            refine (places_any HP4.out (by rw [HDD.out]; omega)).mono ?_
            rintro e w5 ⟨b5, rfl, hown5, g5⟩
            obtain ⟨A5, c5, hv5, hc5, _, _⟩ := hown5.listAt
            rw [placeC_len, keys_len, HDD.out] at hv5 hc5
            subst hv5
            have HG5 := Lib.hid g5
            clear hown5 g5
            go_wp2_with fail
            go_roundg (l.length - (k + 1))
            case measure => rw [HGK.out]; omega
            case rel => exact ⟨v3, k + 1, by omega, by omega, by go_num, by rw [HRF.out, HF1.out]; exact HM4.out.grew HG5.out, HN3.out, by rw [HRS.out, HRF.out]; exact HK1.out, by rw [HRS.out, ← HE3.out]; exact HP4.out.grew HG5.out, HT4.out.andGrew HG5.out⟩
      · obtain rfl : k = l.length := by omega
        go_wp2_with fail
        go_ret
        exact ⟨rfl, g1.trans HTk.out.toGrew⟩
end Go.Proofs.Ytfmhiocigoejjaa
