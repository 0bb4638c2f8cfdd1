/- BufferCounts' walk. -/
import Derived.Test.YtfmhiocigoejjaaBufL
namespace Go.Proofs.Ytfmhiocigoejjaa
set_option linter.unusedVariables false
set_option linter.unusedSimpArgs false
set_option linter.unusedSectionVars false
open Go.RowKit
theorem look_iff (L : List Pg) (p : Place) : p ∈ keys L ↔ ∃ c, look L p = some c := ⟨look_mem L p, fun ⟨c, h⟩ => look_some_mem L p c h⟩
set_option maxRecDepth 100000 in
set_option maxHeartbeats 4000000 in
theorem bufferCounts_any (c : Nat) (hc : c < 256) (A : Option Addr) (cc : Nat) (l : List Opn) (w : World) (hl : l.length ≤ 9223372036854775807) (hv : OpsAt w w.heap.size A l) :
    Calls Try.prog 8 #[.int .u8 (c : Int), .slice A l.length cc] w fun e w' => e = .returned (.bool true) ∧ Grew w w' := by
  have HV := Lib.hid hv
  clear hv
  cases hf : fewO l with
  | false =>
    have HFW := Lib.hid hf
    clear hf
    go_enter Try.func8, Try.ntmps8
    go_wp2_with fail
    refine (awake_any _).mono ?_
    rintro e w1 ⟨rfl, g1⟩
    go_wp2_with fail
    refine (few_any A cc l w1 _ (HV.out.hold (Nat.le_refl _) g1) hl).mono ?_
    rintro e w2 ⟨rfl, rfl⟩
    rw [HFW.out]
    go_wp2_with fail
    go_ret
    exact ⟨rfl, g1⟩
  | true =>
    have hl60 := fewO_len hf
    have HFW := Lib.hid hf
    clear hf
    go_enter Try.func8, Try.ntmps8
    go_wp2_with fail
    refine (awake_any _).mono ?_
    rintro e w1 ⟨rfl, g1⟩
    go_wp2_with fail
    refine (few_any A cc l w1 _ (HV.out.hold (Nat.le_refl _) g1) hl).mono ?_
    rintro e w2 ⟨rfl, rfl⟩
    rw [HFW.out]
    go_wp2_with fail
    refine (start_any c hc w1).mono ?_
    rintro e w2 ⟨x, m, n, hn, rfl, hp, g2⟩
    have hF := Foot.base hp g2.size
    have hn1 : 1 ≤ n ∧ n ≤ 8 := by omega
    obtain ⟨hn1, hn8⟩ := hn1
    have hT := g2.turned (fun k => w1.heap.size ≤ k)
    have HP := Lib.hid hp
    have HF := Lib.hid hF
    have HT := Lib.hid hT
    have HSD := Lib.hid (runO_sound (n : Int) l (by omega))
    clear hp hF hT g2 hn
    go_wp2_with fail
    go_loopg [7, 8, 33] l.length (fun gk ih im i wr => ∃ v, ∃ k : Nat, k ≤ l.length ∧ gk = l.length - k ∧ i = .int .i64 k ∧ ih = .int .i64 (runO n l k).hits ∧ im = .int .i64 (runO n l k).misses ∧ PoolM wr w1.heap.size x m v n (runO n l k).pages (runO n l k).hits (runO n l k).misses ∧ Foot (fun j => w1.heap.size ≤ j) wr x m v ∧ Turned (fun j => w1.heap.size ≤ j) w1 wr)
    case atStart => exact ⟨_, 0, by omega, by omega, rfl, rfl, rfl, HP.out, HF.out, HT.out⟩
    case round =>
      obtain ⟨v, k, hk, hgk, rfl, rfl, rfl, hp, hF, hT⟩ := hrel
      obtain ⟨wm, hwm⟩ : ∃ wm, wm = wr := ⟨_, rfl⟩
      subst hwm
      have HGK := Lib.hid hgk
      have HFk := Lib.hid hF
      have HTk := Lib.hid hT
      have hsd := HSD.out k
      obtain ⟨s, hs⟩ : ∃ s, runO n l k = s := ⟨_, rfl⟩
      rw [hs] at hsd hp ⊢
      have HS := Lib.hid hs
      have HSDk := Lib.hid hsd
      obtain ⟨L, h, ms⟩ := s
      obtain ⟨d1, d2, d3, d4, d5⟩ := hsd
      simp only at hp d1 d2 d3 d4 d5
      have hL8 : L.length ≤ 8 := by omega
      have hh : 0 ≤ h ∧ h ≤ 1000000 := by omega
      have hms : 0 ≤ ms ∧ ms ≤ 1000000 := by omega
      have HPk := Lib.hid hp
      have hsz := hT.size
      clear hgk hp hF hT hs
      by_cases hlt : k < l.length
      · obtain ⟨b, off, rfl, hb, hok, c0, c1, c2, c3, c4⟩ := (HV.out.hold (Nat.le_refl _) (g1.trans HTk.out.toGrew)).at_ hlt
        obtain ⟨t, ht⟩ : ∃ t, t = l[k] := ⟨_, rfl⟩
        have HRS := Lib.hid (show runO n l (k + 1) = stepO n ⟨L, h, ms⟩ t from by rw [runO_succ _ _ _ hlt, ← ht, HS.out])
        rw [← ht] at c0 c1 c2 c3 c4 hok
        have HOK := Lib.hid hok
        clear ht hok
        by_cases hkd : t.kind = 0
        · have hkb : (t.kind == 0) = true := by rw [hkd]; rfl
          have HKD := Lib.hid hkd
          have hpA := HPk.out.grew ((Grew.refl wm).alloc (.cells #[.int .i64 t.kind, .int .i64 t.id, .int .i64 t.page, .int .i64 t.ver, .string t.data] 38))
          have HPA := Lib.hid hpA
          have HA0 := Lib.hid (Blk.new wm 38 #[.int .i64 t.kind, .int .i64 t.id, .int .i64 t.page, .int .i64 t.ver, .string t.data] rfl)
          have HGA := Lib.hid ((Grew.refl wm).alloc (.cells #[.int .i64 t.kind, .int .i64 t.id, .int .i64 t.page, .int .i64 t.ver, .string t.data] 38))
          clear hpA hkd
          go_wp2_with fail
          refine (places_any HPA.out (by omega)).mono ?_
          rintro e w4 ⟨pv, rfl, hown, g4⟩
          obtain ⟨A4, c4', hv4, _, _, _⟩ := hown.listAt
          rw [placeC_len, keys_len] at hv4
          subst hv4
          have HO := Lib.hid hown
          have HA4 := Lib.hid (HA0.out.grew g4)
          have HG4 := Lib.hid (HGA.out.trans g4)
          clear hown g4
          go_wp2_with fail
          go_loopg [11, 46] L.length (fun gk th i wq => ∃ q : Nat, ∃ bb : Bool, q ≤ L.length ∧ gk = L.length - q ∧ i = .int .i64 q ∧ th = .bool bb ∧ (bb = true ↔ (t.id, t.page) ∈ (keys L).take q) ∧ Grew w4 wq)
          case atStart => exact ⟨0, false, by omega, by omega, rfl, rfl, by simp, Grew.refl _⟩
          case round =>
            obtain ⟨q, bb, hq, hgk, rfl, rfl, hbb, hgq⟩ := hrel
            have HGK2 := Lib.hid hgk
            have HBB := Lib.hid hbb
            have HGQ := Lib.hid hgq
            have hsq := hgq.size
            have hA4 := HA4.out.grew hgq
            have a1 := hA4.cell 1
            have a2 := hA4.cell 2
            have hal := hA4.lt
            clear hgk hbb hgq hA4
            by_cases hql : q < L.length
            · have hqk : q < (keys L).length := by rw [keys_len]; exact hql
              have hO := HO.out.grew HGQ.out
              rcases hO.form with ⟨hv, h0⟩ | ⟨g, gc, hv, hbg, hgl, hgc, hgcm⟩
              · exfalso
                have := congrArg List.length h0
                rw [placeC_len, keys_len] at this
                simp only [List.length_nil] at this
                omega
              · rw [placeC_len, keys_len] at hv hgc
                injection hv with e1 _ e3
                subst e1; subst e3
                obtain ⟨p0, p1⟩ := own_place hO hqk
                have hTK : (keys L).take (q + 1) = (keys L).take q ++ [(keys L)[q]] := List.take_succ_eq_append_getElem hqk
                obtain ⟨pl, hpq⟩ : ∃ pl, (keys L)[q] = pl := ⟨_, rfl⟩
                rw [hpq] at p0 p1 hTK
                have HTKE := Lib.hid hTK
                obtain ⟨pa, pb⟩ := pl
                simp only at p0 p1
                clear hTK hpq hO
                have HNX := Lib.hid (show ∀ b2 : Bool, (b2 = true ↔ (bb = true ∨ ((t.id, t.page) : Place) = (pa, pb))) → (b2 = true ↔ (t.id, t.page) ∈ (keys L).take (q + 1)) from fun b2 h => by
                  rw [h, HTKE.out, List.mem_append, List.mem_singleton, HBB.out])
                cases bb with
                | true =>
                  go_wp2_with fail
                  go_roundg (L.length - (q + 1))
                  case measure => rw [HGK2.out]; omega
                  case rel => exact ⟨q + 1, true, by omega, by omega, by go_num, rfl, HNX.out _ (by simp), HGQ.out.alloc _⟩
                | false =>
                  by_cases hpa : pa = t.id
                  · by_cases hpb : pb = t.page
                    · subst hpa; subst hpb
                      go_wp2_with fail
                      go_roundg (L.length - (q + 1))
                      case measure => rw [HGK2.out]; omega
                      case rel => exact ⟨q + 1, true, by omega, by omega, by go_num, by first | rfl | simp, HNX.out _ (by simp), HGQ.out.alloc _⟩
                    · have hpb' : (pb == t.page) = false := beq_eq_false_iff_ne.2 hpb
                      have HNN := Lib.hid (show ¬ (((t.id, t.page) : Place) = (pa, pb)) from fun e => hpb (by injection e with _ e; exact e.symm))
                      subst hpa
                      go_wp2_with fail
                      go_roundg (L.length - (q + 1))
                      case measure => rw [HGK2.out]; omega
                      case rel => exact ⟨q + 1, false, by omega, by omega, by go_num, by first | rfl | simp [hpb'], HNX.out _ (by simpa using HNN.out), HGQ.out.alloc _⟩
                  · have hpa' : (pa == t.id) = false := beq_eq_false_iff_ne.2 hpa
                    have HNN := Lib.hid (show ¬ (((t.id, t.page) : Place) = (pa, pb)) from fun e => hpa (by injection e with e _; exact e.symm))
                    go_wp2_with fail
                    go_roundg (L.length - (q + 1))
                    case measure => rw [HGK2.out]; omega
                    case rel => exact ⟨q + 1, false, by omega, by omega, by go_num, by first | rfl | simp [hpa'], HNX.out _ (by simpa using HNN.out), HGQ.out.alloc _⟩
            · obtain rfl : q = L.length := by omega
              have hbl := HBB.out
              rw [← keys_len L, List.take_length, look_iff] at hbl
              have hgw := HG4.out.trans HGQ.out
              have hPw := HPk.out.grew hgw
              have hFw := HFk.out.grew hgw
              have HTw := Lib.hid (HTk.out.andGrew hgw)
              have hzw := HTw.out.size
              clear hgw
              obtain ⟨_, ok1, ok2, _⟩ := HOK.out
              cases hlk : look L (t.id, t.page) with
              | none =>
                rw [hlk] at hbl
                have hb0 : bb = false := by
                  cases hx : bb with
                  | false => rfl
                  | true => obtain ⟨_, h⟩ := hbl.1 hx; cases h
                subst hb0
                have HRS2 := Lib.hid (show runO n l (k + 1) = ⟨L, h, ms + 1⟩ from by
                  rw [HRS.out]; unfold stepO; rw [if_pos HKD.out]; simp only []; rw [hlk])
                have HG := Lib.hid (get_none x m w1.heap.size v n h ms L t.id t.page _ (fun j => w1.heap.size ≤ j) hPw hFw (by omega) (by omega) ⟨ok1, ok2⟩ ⟨by omega, by omega⟩ hlk)
                clear hPw hFw hbl hlk
                go_wp2_with fail
                refine HG.out.mono ?_
                rintro e w6 ⟨rfl, ⟨v6, hp6, hF6⟩, hT6⟩
                have HP6 := Lib.hid hp6
                have HF6 := Lib.hid hF6
                have HT6 := Lib.hid hT6
                clear hp6 hF6 hT6 HG
                go_wp2_with fail
                go_roundg (l.length - (k + 1))
                case measure => rw [HGK.out]; omega
                case rel => exact ⟨v6, k + 1, by omega, by omega, by go_num, by rw [HRS2.out], by rw [HRS2.out], by rw [HRS2.out]; exact HP6.out, HF6.out, HTw.out.trans HT6.out⟩
              | some ct =>
                obtain ⟨cs, cu⟩ := ct
                rw [hlk] at hbl
                have hb0 : bb = true := hbl.2 ⟨_, rfl⟩
                subst hb0
                have HRS2 := Lib.hid (show runO n l (k + 1) = ⟨rmv L (t.id, t.page) ++ [((t.id, t.page), (cs, cu))], h + 1, ms⟩ from by
                  rw [HRS.out]; unfold stepO; rw [if_pos HKD.out]; simp only []; rw [hlk])
                have HG := Lib.hid (get_some x m w1.heap.size v n h ms L t.id t.page cs cu _ (fun j => w1.heap.size ≤ j) hPw hFw (by omega) (by omega) ⟨ok1, ok2⟩ ⟨by omega, by omega⟩ hlk)
                clear hPw hFw hbl hlk
                go_wp2_with fail
                refine HG.out.mono ?_
                rintro e w6 ⟨rfl, ⟨v6, hp6, hF6⟩, hT6⟩
                have HP6 := Lib.hid hp6
                have HF6 := Lib.hid hF6
                have HT6 := Lib.hid hT6
                clear hp6 hF6 hT6 HG
                go_wp2_with fail
                go_roundg (l.length - (k + 1))
                case measure => rw [HGK.out]; omega
                case rel => exact ⟨v6, k + 1, by omega, by omega, by go_num, by rw [HRS2.out], by rw [HRS2.out], by rw [HRS2.out]; exact HP6.out, HF6.out, HTw.out.trans HT6.out⟩
        · have HD := Lib.hid (do_any x m w1.heap.size v n ⟨L, h, ms⟩ k t _ (fun j => w1.heap.size ≤ j) (HPk.out.grew ((Grew.refl wm).alloc (.cells #[.int .i64 t.kind, .int .i64 t.id, .int .i64 t.page, .int .i64 t.ver, .string t.data] 38))) (HFk.out.grew ((Grew.refl wm).alloc _)) HSDk.out (by omega) ⟨by omega, by omega⟩ (by simp; omega) HOK.out)
          have hkb : (t.kind == 0) = false := beq_eq_false_iff_ne.2 hkd
          have HKN := Lib.hid (show (runO n l (k + 1)).hits = h ∧ (runO n l (k + 1)).misses = ms from by
            rw [HRS.out]
            unfold stepO
            rw [if_neg hkd]
            constructor <;> repeat' (first | rfl | split))
          go_wp2_with fail
          refine HD.out.mono ?_
          rintro e w3 ⟨rfl, ⟨v3, hp3, hF3⟩, hT3⟩
          have HP3 := Lib.hid hp3
          have HF3 := Lib.hid hF3
          have HT3 := Lib.hid hT3
          clear hp3 hF3 hT3 HD
          go_wp2_with fail
          go_roundg (l.length - (k + 1))
          case measure => rw [HGK.out]; omega
          case rel => exact ⟨v3, k + 1, by omega, by omega, by go_num, by rw [HKN.out.1], by rw [HKN.out.2], by rw [HRS.out]; exact HP3.out, HF3.out, (HTk.out.alloc _).trans HT3.out⟩
      · obtain rfl : k = l.length := by omega
        go_wp2_with fail
        refine (hits_any HPk.out).mono ?_
        rintro e w5 ⟨rfl, nn, rfl⟩
        go_wp2_with fail
        go_ret
        exact ⟨rfl, g1.trans (HTk.out.toGrew.drewN nn)⟩
end Go.Proofs.Ytfmhiocigoejjaa
