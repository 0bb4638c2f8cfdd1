/- Chapter 4: Commit. Chapter 4: Commit, refused, or of nothing. -/
import Derived.StillTailTactics
import Derived.Test.YtbddelefglhaaaaCpI
namespace Go.Proofs.Ytbddelefglhaaaa
set_option linter.unusedVariables false
set_option linter.unusedSimpArgs false
set_option linter.unusedSectionVars false
open Go.RowKit
attribute [local go_sem ↓] Go.wp_at_zero Go.wp_at_succ
section
variable {w0 : World} {x s m : Nat} {sy ep : Int} {D : Dev} {out : Nat → Prop} {W : World}
set_option maxRecDepth 100000 in
set_option maxHeartbeats 8000000 in
theorem commit_walk (HSO : SortOK) (h : Held w0 x s m sy ep D out W) (hlen : 132 ≤ D.st.length ∧ D.st.length ≤ 1155) (hp : D.pend.length ≤ 800000) (E : Dev) (fb : Bool) (hE : finD D sy ep = (E, fb, 0)) (n : Nat) (hn : D.st.length - 131 = n) (ws : List (Int × ByteArray)) (hok : ∀ e ∈ ws, okI e.1) (A : Option Addr) (c : Nat) (hat : ListAt W W.heap.size 2 A (ws.map entC)) (hA : AsideL w0 out A) (hck : checkP n ws = 0) (hne : ws ≠ []) (htop : (topI E).ok = true) (S : Wl) (hS : sortW n ws = S) (hmaps : ∀ k ∈ ksW S, okMap E k) (v : U32) (hv : (topI E).ver + 1#32 = v) (hver : (topI E).ver ≠ 4294967295#32) :
    Calls Try.prog 19 #[ptrV s, .slice A ws.length c] W fun e w' => e = .returned (.int .i64 (runS sy ep (commitS (entG E S v) v) E).2) ∧ Done w0 x s m sy ep (runS sy ep (commitS (entG E S v) v) E).1 out W w' := by
  obtain ⟨hfacts, hnd, hl64⟩ := check_facts n ws hck
  have hfl := finD_len D sy ep
  rw [hE] at hfl
  have hEf := hfl.2 rfl
  have hEl : E.st.length = D.st.length := hfl.1
  have hpE : E.pend.length ≤ 800100 := by have := finD_pend D sy ep; rw [hE] at this; show E.pend.length ≤ _; have h9 : (E, fb, (0 : Int)).1.pend.length = E.pend.length := rfl; omega
  have hls := h.store.lt
  have hw0 := h.live.base.size
  have hg0 : Grew W (W.alloc (.cells #[ptrV s] 34)) := (Grew.refl W).alloc _
  have hb0 : Blk (W.alloc (.cells #[ptrV s] 34)) W.heap.size 34 #[ptrV s] := Blk.new W _ _ rfl
  have hh0 : Held w0 x s m sy ep D (fun k => out k ∨ k = W.heap.size) (W.alloc (.cells #[ptrV s] 34)) := ⟨(h.live.more hg0).few (fun k hk => hk.elim .inl (fun h9 => .inr (by rw [h9]; simp))), h.store.grew hg0, .inl h.os, .inl h.om, h.m0⟩
  have HF := Lib.hid (finish_any hh0 hlen.1 (by omega) E fb 0 hE)
  have hwl : ((ws.length : Int) == 0) = false := by
    have : ws.length ≠ 0 := fun e => hne (List.length_eq_zero_iff.1 e)
    rw [beq_eq_false_iff_ne]; omega
  have hwp : 0 < ws.length := List.length_pos_iff.2 hne
  have hnb : 1 ≤ n ∧ n ≤ 1024 := by omega
  have hSlen : S.length = ws.length := by rw [← hS]; exact sortW_len n ws (fun e he => (hfacts e he).2) hnd
  have hSn : ∀ e ∈ S, e.1 < n ∧ e.2.size = 128 := fun e he => by
    rw [← hS] at he
    obtain ⟨h1, h2⟩ := (sortW_mem n ws e).1 he
    obtain ⟨y, hy, hyx⟩ := Option.map_eq_some_iff.1 h2
    exact ⟨h1, by rw [← hyx]; exact (hfacts y (List.mem_of_find?_eq_some hy)).1⟩
  have hSasc : S.Pairwise fun a b => a.1 < b.1 := by rw [← hS]; exact sortW_asc n ws
  obtain ⟨⟨td, tv, tk⟩, htt⟩ : ∃ r, topI E = r := ⟨_, rfl⟩
  have htk : tk = true := by rw [htt] at htop; exact htop
  subst htk
  have hvv : tv + 1#32 = v := by rw [htt] at hv; exact hv
  have htv : tv ≠ 4294967295#32 := by rw [htt] at hver; exact hver
  have htd : topD E = (⟨td, tv, true⟩, 0) := by rw [topD_is hEf (by rw [hEl]; omega), htt]; rfl
  have hts : td.size = 128 := by have := rawOf_full htop; have h9 : (rawOf (E.content 0) 0).data = td := by show (topI E).data = td; rw [htt]
                                 rw [← h9]; exact this
  have htf : (topI E).data = td := by rw [htt]
  have HH0 := Lib.hid hh0
  have HB0 := Lib.hid hb0
  have HG0 := Lib.hid hg0
  have HAT := Lib.hid hat
  have HAS := Lib.hid hA
  have HEF := Lib.hid hEf
  have HEL := Lib.hid (show 132 ≤ E.st.length ∧ E.st.length ≤ 1155 from by omega)
  have HLS := Lib.hid hls
  have HOS := Lib.hid (show out s ∧ out m from ⟨h.os, h.om⟩)
  have HWM := Lib.hid h.store
  have HCK := Lib.hid (show checkP (E.st.length - 131) ws = 0 from by rw [hEl, hn]; exact hck)
  have HFX := Lib.hid hfacts
  have HND := Lib.hid hnd
  have HOK := Lib.hid hok
  have HSL := Lib.hid (show sortW n ws = S ∧ S.length = ws.length from ⟨hS, hSlen⟩)
  have HSN := Lib.hid hSn
  have HSA := Lib.hid hSasc
  have HMP := Lib.hid hmaps
  have HTD := Lib.hid htd
  have HTF := Lib.hid htf
  have HTT := Lib.hid htt
  have HVV := Lib.hid hvv
  have HTV := Lib.hid htv
  have HPE := Lib.hid hpE
  have HSO' := Lib.hid HSO
  have HNE := Lib.hid hne
  have HW0 := Lib.hid hw0
  clear HSO h hlen hp hE hn hok hat hA hck htop hS hmaps hv hver hfacts hnd hfl hEf hEl hpE hls hg0 hb0 hh0 hSlen hSn hSasc htt hvv htv htd htf hne hw0
  go_enter Try.func19, Try.ntmps19
  go_wp2_with fail
  refine HF.out.mono ?_
  rintro e w1 ⟨rfl, hd⟩
  have hm0 : ¬ W.heap.size = m := by have := HLS.out.2; omega
  have hb1 : Blk w1 W.heap.size 34 #[ptrV s] := HB0.out.turned hd.turned (fun hq => hq.elim (fun h9 => h9.2 (.inr rfl)) hm0)
  have hh1 := held_up0 (HH0.out.done hd)
  have hsz1 := hd.turned.size
  have hWw1 : W.heap.size < w1.heap.size := by have := HB0.out.lt; omega
  have hat1 : ListAt w1 w1.heap.size 2 A (ws.map entC) := listAt_stay (listAt_on HAT.out HG0.out) hd.turned (fun b off o u e hu hq => by
    rcases hq with hq | hq
    · rcases HAS.out b off e with h9 | h9
      · exact absurd hq.1 (by have := h9; omega)
      · exact hq.2 (.inl h9)
    · obtain ⟨F, hFm, _⟩ := (HWM.out.grew HG0.out).seen
      exact cell_not_map hFm hu hq)
  have HLW := Lib.hid (show (w0.heap.size ≤ w1.heap.size ∧ s < w1.heap.size) ∧ m < w1.heap.size from ⟨⟨by have := HW0.out; omega, by have := HLS.out.1; omega⟩, by have := HLS.out.2; omega⟩)
  have HUP := Lib.hid (fun (w' : World) (ht : Turned (fun q => q = m ∨ w1.heap.size ≤ q) w1 w') (hst : StoreM w' s m x sy ep) => hh1.up HLW.out.1 HLW.out.2 ht hst)
  have HD := Lib.hid hd
  have HB1 := Lib.hid hb1
  have HH1 := Lib.hid hh1
  have HAT1 := Lib.hid hat1
  have HCH := Lib.hid (check_any hh1 HEL.out ws (by omega) HOK.out A c hat1)
  rw [HCK.out] at HCH
  have b2c := hb1.cell 0
  have b2l := hb1.lt
  clear hd hb1 hh1 hat1 hsz1 HF
  go_wp2_with fail
  refine HCH.out.mono ?_
  rintro e w2 ⟨rfl, g2⟩
  have HT2 := Lib.hid (top_any (HUP.out w2 (g2.turned _) (HH1.out.store.grew g2)))
  rw [HTD.out] at HT2
  have HG2 := Lib.hid g2
  have b2c := cell_grew g2 b2c
  have b2l : W.heap.size < w2.heap.size := Nat.lt_of_lt_of_le b2l g2.size
  clear g2
  go_wp2_with fail
  refine HT2.out.mono ?_
  rintro e w3 ⟨rfl, hl3⟩
  unfold rawV
  have hm2 : m < w1.heap.size := HLW.out.2
  have HT3 : Hid (Turned (fun q => q = m) w1 w3) := Lib.hid ((HG2.out.turned _).trans hl3.turned)
  have HS3 := Lib.hid hl3.store
  have hat3 : ListAt w3 w3.heap.size 2 A (ws.map entC) := listAt_stay (listAt_on HAT1.out HG2.out) hl3.turned (fun b off o u e hu hq => by
    obtain ⟨F, hFm, _⟩ := (HH1.out.store.grew HG2.out).seen
    exact cell_not_map hFm hu hq)
  have HAT3 := Lib.hid hat3
  have hb3 := HB1.out.turned HT3.out hm0
  have b2c := hb3.cell 0
  have b2l := hb3.lt
  have HB3 := Lib.hid hb3
  clear hl3 hat3 hb3
  have htvb := u32_bd tv
  go_wp2_with fail
  have HB8 : Hid (Blk (w3.alloc (.cells #[.string td, .int .u32 (u32 tv), .bool true] 87)) w3.heap.size 87 #[.string td, .int .u32 (u32 tv), .bool true]) := Lib.hid (Blk.new w3 _ _ rfl)
  have hg38 : Grew w3 (w3.alloc (.cells #[.string td, .int .u32 (u32 tv), .bool true] 87)) := (Grew.refl w3).alloc _
  have HG38 := Lib.hid hg38
  refine (clone_sw A c ws.length ws _ rfl (by omega) (listAt_on HAT3.out hg38)).mono ?_
  rintro e w4 ⟨v4, rfl, hown4, g4⟩
  have hne4 : ws.map entC ≠ [] := fun e => HNE.out (List.map_eq_nil_iff.1 e)
  obtain ⟨gs, cs, rfl, hgs1, hgs2⟩ := hown4.some_ hne4
  rw [List.length_map] at hown4 ⊢
  have hgs3 : w3.heap.size < gs := Nat.lt_of_lt_of_le HB8.out.lt hgs1
  have HG34 := Lib.hid (HG38.out.trans g4)
  have HSORT := Lib.hid (HSO'.out gs cs n ws ⟨hwp, by omega⟩ HND.out (fun e he => (HFX.out e he).2) hnb.2 w4 _ hown4)
  have HB84 := Lib.hid (HB8.out.grew g4)
  have b2c := cell_grew HG34.out b2c
  have b2l : W.heap.size < w4.heap.size := Nat.lt_of_lt_of_le b2l HG34.out.size
  clear hg38 hown4 g4 hne4 hgs1
  go_wp2_with fail
  refine HSORT.out.mono ?_
  rintro e w5 ⟨rfl, ht5, hlat5⟩
  rw [HSL.out.1] at hlat5
  have h13 : w1.heap.size ≤ w3.heap.size := HT3.out.size
  have HB85 := Lib.hid (HB84.out.turned ht5 (fun e => by omega))
  have HT5 : Hid (Turned (fun q => q = m ∨ w1.heap.size ≤ q) w1 w5) := Lib.hid (((HT3.out.mono fun q _ hq => Or.inl hq).trans (HG34.out.turned _)).trans (ht5.mono fun q _ hq => .inr (by rw [hq]; omega)))
  have HS5 : Hid (StoreM w5 s m x sy ep) := Lib.hid ((HS3.out.grew HG34.out).kept ht5 (fun e => by have := HLW.out.1.2; omega) (fun e => by omega))
  have HLAT5 := Lib.hid hlat5
  have hb5 : Blk w5 W.heap.size 34 #[ptrV s] := (HB3.out.grew HG34.out).turned ht5 (fun e => by omega)
  have HB5 := Lib.hid hb5
  have b2c := hb5.cell 0
  have b2l := hb5.lt
  have t80 := HB85.out.cell 0
  have t81 := HB85.out.cell 1
  have t8l := HB85.out.lt
  have hzz := zero_ver
  have hmm := @run_makeMap Try.prog
  have HLD := Lib.hid (load_any td hts)
  clear ht5 hlat5 hb5
  go_wp2_with fail
  refine (HLD.out _).mono ?_
  rintro e w6 ⟨rfl, g6⟩
  have HG6 := Lib.hid g6
  have b2c := cell_grew g6 b2c
  have b2l : W.heap.size < w6.heap.size := Nat.lt_of_lt_of_le b2l g6.size
  have t80 := cell_grew g6 t80
  have t81 := cell_grew g6 t81
  have t8l : w3.heap.size < w6.heap.size := Nat.lt_of_lt_of_le t8l g6.size
  have HBT : Hid (Blk ((w6.alloc (.cells (verArr fun _ => 0#32) 94)).setRow w6.heap.size (verArr (fld td))) w6.heap.size 94 (verArr (fld td))) := Lib.hid ((Blk.new w6 _ _ rfl).setRow _)
  have HG7 : Hid (Grew w5 ((w6.alloc (.cells (verArr fun _ => 0#32) 94)).setRow w6.heap.size (verArr (fld td)))) := Lib.hid ((HG6.out.alloc _).setRow HG6.out.size _)
  rw [← HSL.out.2]
  clear g6
  go_wp2_with (refine wpList_store_blk rfl 94 _ _ rfl w6.heap.size (verArr (fld td)) rfl rfl 94 (verArr fun _ => 0#32) (Blk.new w6 _ _ rfl) (by rw [verArr_size, verArr_size]) (by rw [verArr_size]; exact info_ver) (verArr_one _) ?_)
  have hSb : S.length ≤ 64 := by rw [HSL.out.2]; exact hl64
  obtain ⟨wa, hwa⟩ : ∃ wa : World, wa = (w6.alloc (.cells (verArr fun _ => 0#32) 94)).setRow w6.heap.size (verArr (fld td)) := ⟨_, rfl⟩
  rw [← hwa] at HBT HG7 ⊢
  obtain ⟨gT, hgT⟩ : ∃ q, q = w6.heap.size := ⟨_, rfl⟩
  rw [← hgT] at HBT ⊢
  have hsa : gT + 1 = wa.heap.size := by rw [hwa, hgT]; simp
  rw [hsa]
  have hTa : gT < wa.heap.size := HBT.out.lt
  have h6a : w3.heap.size < gT ∧ gs < gT ∧ w1.heap.size ≤ gT := ⟨by omega, by have := HLAT5.out; have h7 := HG6.out.size; have h8 := (ent_own this (k := 0) (by rw [HSL.out.2]; exact hwp)).1; omega, by omega⟩
  obtain ⟨h6a, h6b, h6c⟩ := h6a
  have HG57 : Hid (Grew w5 (wa.alloc (.map #[] 0))) := Lib.hid (HG7.out.alloc _)
  have HTL : Hid (Turned (fun q => q = m ∨ w1.heap.size ≤ q) w1 (wa.alloc (.map #[] 0))) := Lib.hid (HT5.out.trans (HG57.out.turned _))
  have HSTL := Lib.hid (HS5.out.grew HG57.out)
  have HB5L := Lib.hid (HB5.out.grew HG57.out)
  have HB8L := Lib.hid (HB85.out.grew HG57.out)
  have HBTL := Lib.hid (HBT.out.alloc (.map #[] 0))
  have HLATL := Lib.hid (listAt_on HLAT5.out HG57.out)
  have HM0 : Hid (MapsM (wa.alloc (.map #[] 0)) wa.heap.size wa.heap.size (ksW []) (fun _ => 0) (fun k => fld (mapI E k).data)) := Lib.hid (MapsM.made _)
  have h1L : W.heap.size < w3.heap.size ∧ m < w3.heap.size := by have := HLW.out.2; omega
  obtain ⟨h1L, hm3⟩ := h1L
  clear hmm hzz t80 t81 b2c t8l b2l hwa hgT
  go_loopg [13, 72] S.length (fun gk u i' wr => ∃ (i : Nat) (bk : Nat → Nat), i ≤ S.length ∧ gk = S.length - i ∧ i' = .int .i64 i ∧ MapsM wr wa.heap.size wa.heap.size (ksW (S.take i)) bk (fun k => fld (mapI E k).data) ∧ OwnL wr (wa.heap.size + 1) 3 1 u ((ksW (S.take i)).map fun k : Nat => [.int .i64 (k : Int)]) ∧ StoreM wr s m x sy ep ∧ Turned (fun q => q = m ∨ wa.heap.size ≤ q) (wa.alloc (.map #[] 0)) wr)
  case atStart => exact ⟨0, fun _ => 0, by omega, by omega, rfl, HM0.out, by rw [List.take_zero, ksW_nil]; exact OwnL.nil .., HSTL.out, Turned.refl _ _⟩
  case round =>
    obtain ⟨i, bk, hi, hgi, rfl, hmm1, hown, hst, ht⟩ := hrel
    have HGI := Lib.hid hgi
    have HM1 := Lib.hid hmm1
    have HOW := Lib.hid hown
    have HST := Lib.hid hst
    have HT := Lib.hid ht
    have HBX := Lib.hid (HB5L.out.turned ht (fun e => by omega))
    have HBTr := Lib.hid (HBTL.out.turned ht (fun e => by omega))
    have HB8r := Lib.hid (HB8L.out.turned ht (fun e => by omega))
    have hTr : Turned (fun q => q = m ∨ w1.heap.size ≤ q) w1 wr := HTL.out.trans (ht.mono fun q _ hq => by rcases hq with hq | hq; exact .inl hq; exact .inr (by omega))
    have HTr := Lib.hid hTr
    have HHr := Lib.hid (HUP.out wr hTr hst)
    have HLr : Hid (ListAt wr wr.heap.size 2 (some ⟨gs, 0, none⟩) ((wlI S).map entC)) := Lib.hid (listAt_stay HLATL.out ht (fun b off o u9 e hu hq => by
      injection e with e
      injection e with e1 _ _
      rcases hq with hq | hq <;> omega))
    clear hgi hmm1 hown hst ht hTr
    by_cases hlt : i < S.length
    · have hki : (i : Int) < (S.length : Int) := by omega
      obtain ⟨hgl, c0, c1⟩ := ent_own HLr.out hlt
      obtain ⟨a, ha⟩ : ∃ a, S[i].1 = a := ⟨_, rfl⟩
      have han : a < n := by rw [← ha]; exact (HSN.out _ (List.getElem_mem hlt)).1
      obtain ⟨k, hk⟩ : ∃ k : Nat, a / 32 = k := ⟨_, rfl⟩
      have hk32 : k < 32 := by omega
      have hq1 : (a : Int) / 32 = (k : Int) := by omega
      have hq2 : Int.tdiv (a : Int) 32 = (k : Int) := by rw [Int.tdiv_eq_ediv_of_nonneg (by omega)]; exact hq1
      rw [ha] at c0
      obtain ⟨kl, hkl⟩ := int_key (k : Int) (okI_small _ (by omega))
      have HKL := Lib.hid hkl
      have HKA := Lib.hid (show S[i].1 / 32 = k from by rw [ha]; exact hk)
      have hm2 := HM1.out.grew ((Grew.refl wr).alloc (.cells #[.int .i64 (a : Int), .string S[i].2] 72))
      have hlk := hm2.map.lookup_val int_keyedI intV_inj Try.underlying96 (zero_ptr _) (k : Int) hkl
      rw [mapF_at] at hlk
      have HM2 := Lib.hid hm2
      clear hkl hm2 ha hk
      by_cases hin : k ∈ ksW (S.take i)
      · rw [if_pos hin, Option.getD_some] at hlk
        have HKS := Lib.hid (ksW_old S i hlt (by rw [HKA.out]; exact hin))
        clear hin
        go_wp2_with fail
        go_roundg (S.length - (i + 1))
        case measure => rw [HGI.out]; omega
        case rel => exact ⟨i + 1, bk, by omega, by omega, by go_num, by rw [HKS.out]; exact HM2.out, by rw [HKS.out]; exact HOW.out.alloc _, HST.out.grew ((Grew.refl wr).alloc _), HT.out.alloc _⟩
      · rw [if_neg hin, Option.getD_none] at hlk
        have hkS : k ∈ ksW S := (ksW_mem S k).2 ⟨hk32, S[i], List.getElem_mem hlt, HKA.out⟩
        have hokm := HMP.out k hkS
        obtain ⟨⟨bd, bv, bb⟩, hmi⟩ : ∃ r, mapI E k = r := ⟨_, rfl⟩
        have hbb : bb = true := by have := hokm.2.1; rw [hmi] at this; exact this
        subst hbb
        have hmd : (mapI E k).data = bd := by rw [hmi]
        have hsz : bd.size = 128 := by rw [← hmd]; exact rawOf_full hokm.2.1
        obtain ⟨ver, hver⟩ : ∃ ver, fld td k = ver := ⟨_, rfl⟩
        have hbel : belowD E (1 + (k : Int)) ver = (⟨bd, bv, true⟩, 0) := by
          rw [map_is HEF.out k hk32 HEL.out.1 ver, if_neg (by rw [hokm.2.1]; simp), if_neg (by rw [hokm.2.2, HTF.out, hver]; simp), hmi]
        obtain ⟨out', hout'⟩ : ∃ o, o = up (fun k => out k ∨ k = W.heap.size) w1.heap.size wr := ⟨_, rfl⟩
        rw [← hout'] at HHr
        obtain ⟨wx, hwx⟩ : ∃ wx : World, wx = wr.alloc (.cells #[.int .i64 (a : Int), .string S[i].2] 72) := ⟨_, rfl⟩
        have hgx : Grew wr wx := by rw [hwx]; exact (Grew.refl wr).alloc _
        have HHx := Lib.hid (HHr.out.grew hgx)
        rw [← hwx] at HM2
        have HGX := Lib.hid hgx
        have hbx := HBX.out.grew hgx
        have htx := HBTr.out.grew hgx
        have bx := hbx.cell 0
        have bl := hbx.lt
        have tc := htx.cell k
        rw [verArr_get _ _ hk32, hver] at tc
        have tl := htx.lt
        have HBE := Lib.hid (fun (w1 : World) (hh : Held w0 x s m sy ep E out' w1) => below_any hh (1 + (k : Int)) (okI_small _ (by omega)) ver)
        rw [hbel] at HBE
        have hwk : IntKind.i64.wrap (1 + (k : Int)) = 1 + (k : Int) := IntWalk.i64_in _ (by omega)
        have hki2 : (0 : Int) ≤ (k : Int) ∧ (k : Int) < 32 := by omega
        have HMD := Lib.hid hmd
        have HIN := Lib.hid hin
        have HKN := Lib.hid (ksW_new S HSA.out i hlt (by rw [HKA.out]; exact hk32) (by rw [HKA.out]; exact hin))
        have hkl32 : (ksW (S.take i)).length ≤ 32 := by unfold ksW; exact Nat.le_trans (List.length_filter_le _ _) (by rw [List.length_range]; exact Nat.le_refl _)
        have hmx : m < wx.heap.size := by have := HGX.out.size; have := HTr.out.size; omega
        have hax : wa.heap.size ≤ wx.heap.size := by have := HGX.out.size; have := HT.out.size; simp at this; omega
        clear hkS hokm hmi hbel hgx hbx htx hin hmd hver hout'
        go_wp2_with fail
        rw [← hwx]
        clear hwx hlk
        refine wp_region_R [6, 11] (fun w' : World => w'.cell? ⟨W.heap.size, 0, none⟩ = some (ptrV s) ∧ W.heap.size < w'.heap.size ∧ w'.cell? ⟨gT, k, none⟩ = some (.int .u32 (u32 ver)) ∧ gT < w'.heap.size) (by kernel_rfl) ?_
        have hS := (show (fun w' : World => w'.cell? ⟨W.heap.size, 0, none⟩ = some (ptrV s) ∧ W.heap.size < w'.heap.size ∧ w'.cell? ⟨gT, k, none⟩ = some (.int .u32 (u32 ver)) ∧ gT < w'.heap.size) wx.drew from ⟨bx, bl, tc, tl⟩)
        refine wpAnyR_take (i := 0) (v := ?_) [6, 7, 8, 9, 11, 12] (some 84) rfl rfl (by kernel_rfl) (by kernel_rfl) (by kernel_rfl) (by kernel_rfl) (by kernel_rfl) (by kernel_rfl) (by kernel_rfl) (fun _ _ _ h => h) (Or.inl ⟨by rfl, ?_⟩) hS ?_
        rotate_left
        focus (intro wS hSw; (try dsimp only at hSw); go_simp; (try with_reducible rfl); (try (first | (rw [if_pos (by omega)]; (try go_simp); (try with_reducible rfl)) | (rw [if_neg (by omega)]; (try go_simp); (try with_reducible rfl)))))
        try simp only [Act.put, List.setIfInBounds_toArray, List.set_cons_zero, List.set_cons_succ]
        refine wpAnyR_takeQ (i := 1) (v := ?_) (some 85) rfl rfl (by kernel_rfl) (by kernel_rfl) (by kernel_rfl) (by kernel_rfl) (fun _ _ _ h => h) (Or.inl ⟨by rfl, ?_⟩) ?_
        rotate_left
        focus (intro wS hSw; (try dsimp only at hSw); go_simp; (try with_reducible rfl); (try (first | (rw [if_pos (by omega)]; (try go_simp); (try with_reducible rfl)) | (rw [if_neg (by omega)]; (try go_simp); (try with_reducible rfl)))))
        try simp only [Act.put, List.setIfInBounds_toArray, List.set_cons_zero, List.set_cons_succ]
        refine wpAnyR_takeQ (i := 2) (v := ?_) (some 86) rfl rfl (by kernel_rfl) (by kernel_rfl) (by kernel_rfl) (by kernel_rfl) (fun _ _ _ h => h) (Or.inl ⟨by rfl, ?_⟩) ?_
        rotate_left
        focus (intro wS hSw; (try dsimp only at hSw); go_simp; (try with_reducible rfl); (try (first | (rw [if_pos (by omega)]; (try go_simp); (try with_reducible rfl)) | (rw [if_neg (by omega)]; (try go_simp); (try with_reducible rfl)))))
        try simp only [Act.put, List.setIfInBounds_toArray, List.set_cons_zero, List.set_cons_succ]
        refine wpAnyR_takeQ (i := 3) (v := ?_) (some 87) rfl rfl (by kernel_rfl) (by kernel_rfl) (by kernel_rfl) (by kernel_rfl) (fun _ _ _ h => h) (Or.inl ⟨by rfl, ?_⟩) ?_
        rotate_left
        focus (intro wS hSw; (try dsimp only at hSw); go_simp; (try with_reducible rfl); (try (first | (rw [if_pos (by omega)]; (try go_simp); (try with_reducible rfl)) | (rw [if_neg (by omega)]; (try go_simp); (try with_reducible rfl)))))
        try simp only [Act.put, List.setIfInBounds_toArray, List.set_cons_zero, List.set_cons_succ]
        refine wpAnyR_takeQ (i := 4) (v := ?_) (some 88) rfl rfl (by kernel_rfl) (by kernel_rfl) (by kernel_rfl) (by kernel_rfl) (fun _ _ _ h => h) (Or.inl ⟨by rfl, ?_⟩) ?_
        rotate_left
        focus (intro wS hSw; (try dsimp only at hSw); go_simp; (try with_reducible rfl); (try (first | (rw [if_pos (by omega)]; (try go_simp); (try with_reducible rfl)) | (rw [if_neg (by omega)]; (try go_simp); (try with_reducible rfl)))))
        try simp only [Act.put, List.setIfInBounds_toArray, List.set_cons_zero, List.set_cons_succ]
        refine wpAnyR_take (i := 5) (v := ?_) [6, 7, 8, 9, 11, 12] (some 89) rfl rfl (by kernel_rfl) (by kernel_rfl) (by kernel_rfl) (by kernel_rfl) (by kernel_rfl) (by kernel_rfl) (by kernel_rfl) (fun _ _ _ h => h) (Or.inl ⟨by rfl, ?_⟩) hS ?_
        rotate_left
        focus (intro wS hSw; (try dsimp only at hSw); go_simp; (try with_reducible rfl); (try (first | (rw [if_pos (by omega)]; (try go_simp); (try with_reducible rfl)) | (rw [if_neg (by omega)]; (try go_simp); (try with_reducible rfl)))))
        try simp only [Act.put, List.setIfInBounds_toArray, List.set_cons_zero, List.set_cons_succ]
        refine wpAnyR_n2 (i := 6) (j := 10) rfl rfl (by kernel_rfl) ?faa ?fab
        case' faa =>
          intro K' hK
          rw [if_pos (by rfl)]
          simp only [List.getElem_toArray, List.getElem_cons_succ, List.getElem_cons_zero]
          go_wp2_with fail
          refine (HBE.out _ (HHx.out.grew (Grew.refl wx).drew)).mono ?_
          rintro e wb ⟨rfl, hl1⟩
          unfold rawV
          have hlz : Looked w0 x s m sy ep E out' wx (wb.alloc (.cells #[.string bd, .int .u32 (u32 bv), .bool true] 87)) := ((HHx.out.same (Grew.refl wx).drew).trans hl1).grew ((Grew.refl wb).alloc _)
          have hxz : Blk (wb.alloc (.cells #[.string bd, .int .u32 (u32 bv), .bool true] 87)) wb.heap.size 87 #[.string bd, .int .u32 (u32 bv), .bool true] := Blk.new wb _ _ rfl
          have hgxz : wx.heap.size ≤ wb.heap.size := hl1.turned.size
          have hz0 : Blk (wb.alloc (.cells #[.string ⟨#[]⟩, .int .u32 0, .bool false] 87)) wb.heap.size 87 #[.string ⟨#[]⟩, .int .u32 0, .bool false] := Blk.new wb _ _ rfl
          clear hl1
          go_wp2_with fail
          refine hK.out _ _ (.inl (by rfl)) ?_
          clear hK
          refine wpAnyR_takeQ (i := 7) (v := ?_) (some 83) rfl rfl (by kernel_rfl) (by kernel_rfl) (by kernel_rfl) (by kernel_rfl) (fun _ _ _ h => h) (Or.inl ⟨by rfl, ?_⟩) ?_
          rotate_left
          focus (intro wS hSw; (try dsimp only at hSw); go_simp; (try with_reducible rfl); (try (first | (rw [if_pos (by omega)]; (try go_simp); (try with_reducible rfl)) | (rw [if_neg (by omega)]; (try go_simp); (try with_reducible rfl)))))
          try simp only [Act.put, List.setIfInBounds_toArray, List.set_cons_zero, List.set_cons_succ]
          refine wpAnyR_takeQ (i := 8) (v := ?_) (some 91) rfl rfl (by kernel_rfl) (by kernel_rfl) (by kernel_rfl) (by kernel_rfl) (fun _ _ _ h => h) (Or.inl ⟨by rfl, ?_⟩) ?_
          rotate_left
          focus (intro wS hSw; (try dsimp only at hSw); go_simp; (try with_reducible rfl); (try (first | (rw [if_pos (by omega)]; (try go_simp); (try with_reducible rfl)) | (rw [if_neg (by omega)]; (try go_simp); (try with_reducible rfl)))))
          try simp only [Act.put, List.setIfInBounds_toArray, List.set_cons_zero, List.set_cons_succ]
          refine wpAnyR_takeQ (i := 9) (v := ?_) (some 92) rfl rfl (by kernel_rfl) (by kernel_rfl) (by kernel_rfl) (by kernel_rfl) (fun _ _ _ h => h) (Or.inl ⟨by rfl, ?_⟩) ?_
          rotate_left
          focus (intro wS hSw; (try dsimp only at hSw); go_simp; (try with_reducible rfl); (try (first | (rw [if_pos (by omega)]; (try go_simp); (try with_reducible rfl)) | (rw [if_neg (by omega)]; (try go_simp); (try with_reducible rfl)))))
          try simp only [Act.put, List.setIfInBounds_toArray, List.set_cons_zero, List.set_cons_succ]
          refine wpAnyR_n1 (i := 10) rfl (by kernel_rfl) ?_
          intro K' hK
          rw [if_pos (by rfl)]
          simp only [List.getElem_toArray, List.getElem_cons_succ, List.getElem_cons_zero]
          go_wp2_with fail
          refine hK.out _ _ (.inr (fun hS => box_S ((Grew.refl wb).alloc _) hS)) ?_
          clear hK
          refine wpAnyR_n1 (i := 11) rfl (by kernel_rfl) ?_
          intro K' hK
          rw [if_pos (by rfl)]
          simp only [List.getElem_toArray, List.getElem_cons_succ, List.getElem_cons_zero]
          go_wp2_with fail
          refine hK.out _ _ (.inl (by rfl)) ?_
          clear hK hz0
          refine wpAnyR_takeQ (i := 12) (v := ?_) (some 18) rfl rfl (by kernel_rfl) (by kernel_rfl) (by kernel_rfl) (by kernel_rfl) (fun _ _ _ h => h) (Or.inl ⟨by rfl, ?_⟩) ?_
          rotate_left
          focus (intro wS hSw; (try dsimp only at hSw); go_simp; (try with_reducible rfl); (try (first | (rw [if_pos (by omega)]; (try go_simp); (try with_reducible rfl)) | (rw [if_neg (by omega)]; (try go_simp); (try with_reducible rfl)))))
          try simp only [Act.put, List.setIfInBounds_toArray, List.set_cons_zero, List.set_cons_succ]
          refine wpAnyR_done (by kernel_rfl) ?_ _
          generalize hwz : wb.alloc (.cells #[.string bd, .int .u32 (u32 bv), .bool true] 87) = wz at *
          generalize hgz : wb.heap.size = gx at *
          clear hwz hgz
        case' fab =>
          intro K' hK
          rw [if_pos (by rfl)]
          simp only [List.getElem_toArray, List.getElem_cons_succ, List.getElem_cons_zero]
          go_wp2_with fail
          have hgb : Grew wx (wx.alloc (.cells #[.string ⟨#[]⟩, .int .u32 0, .bool false] 87)).drew := ((Grew.refl wx).alloc _).drew
          have hzb : Blk (wx.alloc (.cells #[.string ⟨#[]⟩, .int .u32 0, .bool false] 87)).drew wx.heap.size 87 #[.string ⟨#[]⟩, .int .u32 0, .bool false] := (Blk.new wx _ _ rfl).drew
          refine hK.out _ _ (.inr (fun hS => box_S ((Grew.refl wx.drew).alloc _) hS)) ?_
          clear hK
          refine wpAnyR_n1 (i := 6) rfl (by kernel_rfl) ?_
          intro K' hK
          rw [if_pos (by rfl)]
          simp only [List.getElem_toArray, List.getElem_cons_succ, List.getElem_cons_zero]
          go_wp2_with fail
          refine (HBE.out _ (HHx.out.grew hgb)).mono ?_
          rintro e wb ⟨rfl, hl1⟩
          unfold rawV
          have hz1 := hzb.looked hl1 (by omega)
          have z0 := hz1.cell 0
          have z1 := hz1.cell 1
          have z2 := hz1.cell 2
          have f0 := hz1.frozen 0
          have f1 := hz1.frozen 1
          have f2 := hz1.frozen 2
          have zl := hz1.lt
          have hgxz : wx.heap.size ≤ wx.heap.size := Nat.le_refl _
          have hlz : Looked w0 x s m sy ep E out' wx (((wb.setCell ⟨wx.heap.size, 0, none⟩ (.string bd)).setCell ⟨wx.heap.size, 1, none⟩ (.int .u32 (u32 bv))).setCell ⟨wx.heap.size, 2, none⟩ (.bool true)) := looked_loc HHx.out ((HHx.out.same hgb).trans hl1) (by (repeat' first | (with_reducible exact Turned.refl _ _) | (with_reducible assumption) | (with_reducible refine Turned.alloc ?_ _) | (with_reducible refine Turned.drew ?_) | (with_reducible refine Turned.drewN ?_ _) | (with_reducible refine Turned.setRow ?_ (by first | (simp; done) | (simp; omega) | omega) _) | (with_reducible refine Turned.setCell ?_ (by first | (simp; done) | (simp; omega) | omega) _) | ((with_reducible apply Turned.andGrew); rotate_left; (with_reducible assumption)) | ((with_reducible apply Turned.trans); rotate_left; (with_reducible assumption)) | fail))
          have hxz : Blk (((wb.setCell ⟨wx.heap.size, 0, none⟩ (.string bd)).setCell ⟨wx.heap.size, 1, none⟩ (.int .u32 (u32 bv))).setCell ⟨wx.heap.size, 2, none⟩ (.bool true)) wx.heap.size 87 #[.string bd, .int .u32 (u32 bv), .bool true] := by (apply Blk.conv; (· (repeat' first | (with_reducible assumption) | (with_reducible apply Blk.setRow) | ((with_reducible apply Blk.farRow); rotate_left; (focus (first | (simp; done) | (simp; omega) | omega))) | (with_reducible apply Blk.drew) | (with_reducible apply Blk.drewN) | (with_reducible apply Blk.set_) | (with_reducible exact Blk.new _ _ _ (by first | rfl | (simp; done) | (simp; omega))) | (with_reducible apply Blk.alloc) | ((with_reducible apply Blk.far); rotate_left; (focus (first | (simp; done) | (simp; omega) | omega))) | ((with_reducible apply Blk.grew); rotate_left; (with_reducible assumption)) | ((with_reducible apply Blk.turned); rotate_left; (with_reducible assumption); (focus (first | (simp; done) | (simp; omega) | omega))) | fail)); (· rfl))
          clear hl1 hz1 hgb hzb
          go_wp2_with fail
          refine hK.out _ _ (.inl (by rfl)) ?_
          clear hK
          refine wpAnyR_takeQ (i := 7) (v := ?_) (some 83) rfl rfl (by kernel_rfl) (by kernel_rfl) (by kernel_rfl) (by kernel_rfl) (fun _ _ _ h => h) (Or.inl ⟨by rfl, ?_⟩) ?_
          rotate_left
          focus (intro wS hSw; (try dsimp only at hSw); go_simp; (try with_reducible rfl); (try (first | (rw [if_pos (by omega)]; (try go_simp); (try with_reducible rfl)) | (rw [if_neg (by omega)]; (try go_simp); (try with_reducible rfl)))))
          try simp only [Act.put, List.setIfInBounds_toArray, List.set_cons_zero, List.set_cons_succ]
          refine wpAnyR_takeQ (i := 8) (v := ?_) (some 91) rfl rfl (by kernel_rfl) (by kernel_rfl) (by kernel_rfl) (by kernel_rfl) (fun _ _ _ h => h) (Or.inl ⟨by rfl, ?_⟩) ?_
          rotate_left
          focus (intro wS hSw; (try dsimp only at hSw); go_simp; (try with_reducible rfl); (try (first | (rw [if_pos (by omega)]; (try go_simp); (try with_reducible rfl)) | (rw [if_neg (by omega)]; (try go_simp); (try with_reducible rfl)))))
          try simp only [Act.put, List.setIfInBounds_toArray, List.set_cons_zero, List.set_cons_succ]
          refine wpAnyR_takeQ (i := 9) (v := ?_) (some 92) rfl rfl (by kernel_rfl) (by kernel_rfl) (by kernel_rfl) (by kernel_rfl) (fun _ _ _ h => h) (Or.inl ⟨by rfl, ?_⟩) ?_
          rotate_left
          focus (intro wS hSw; (try dsimp only at hSw); go_simp; (try with_reducible rfl); (try (first | (rw [if_pos (by omega)]; (try go_simp); (try with_reducible rfl)) | (rw [if_neg (by omega)]; (try go_simp); (try with_reducible rfl)))))
          try simp only [Act.put, List.setIfInBounds_toArray, List.set_cons_zero, List.set_cons_succ]
          refine wpAnyR_n1 (i := 11) rfl (by kernel_rfl) ?_
          intro K' hK
          rw [if_pos (by rfl)]
          simp only [List.getElem_toArray, List.getElem_cons_succ, List.getElem_cons_zero]
          go_wp2_with fail
          refine hK.out _ _ (.inl (by rfl)) ?_
          clear hK z0 z1 z2 f0 f1 f2 zl
          refine wpAnyR_takeQ (i := 12) (v := ?_) (some 18) rfl rfl (by kernel_rfl) (by kernel_rfl) (by kernel_rfl) (by kernel_rfl) (fun _ _ _ h => h) (Or.inl ⟨by rfl, ?_⟩) ?_
          rotate_left
          focus (intro wS hSw; (try dsimp only at hSw); go_simp; (try with_reducible rfl); (try (first | (rw [if_pos (by omega)]; (try go_simp); (try with_reducible rfl)) | (rw [if_neg (by omega)]; (try go_simp); (try with_reducible rfl)))))
          try simp only [Act.put, List.setIfInBounds_toArray, List.set_cons_zero, List.set_cons_succ]
          refine wpAnyR_done (by kernel_rfl) ?_ _
          generalize hwz : ((wb.setCell ⟨wx.heap.size, 0, none⟩ (.string bd)).setCell ⟨wx.heap.size, 1, none⟩ (.int .u32 (u32 bv))).setCell ⟨wx.heap.size, 2, none⟩ (.bool true) = wz at hlz hxz ⊢
          obtain ⟨gx, hgz⟩ : ∃ gx, gx = wx.heap.size := ⟨_, rfl⟩
          rw [← hgz] at hxz hgxz ⊢
          clear hwz hgz
        all_goals
          have hgz2 : Grew wr wx := HGX.out
          have HTZ : Hid (Turned (fun q => q = m) wx wz) := Lib.hid hlz.turned
          have HSZ := Lib.hid hlz.store
          have x0 := hxz.cell 0
          have xl := hxz.lt
          have hzz := zero_ver
          have HLD2 := Lib.hid (load_any bd hsz)
          have HMZ := Lib.hid (HM2.out.lookd HTZ.out (by omega))
          have HOZ := Lib.hid ((HOW.out.grew HGX.out).kept HTZ.out (fun g hg e => by have := HOW.out.row_ge g hg; omega))
          have hWZ : wx.heap.size ≤ wz.heap.size := HTZ.out.size
          have HTzz : Hid (Turned (fun q => q = m ∨ wa.heap.size ≤ q) (wa.alloc (.map #[] 0)) wz) := Lib.hid ((HT.out.trans (HGX.out.turned _)).trans (HTZ.out.mono fun q _ hq => .inl hq))
          clear hlz hxz bx bl tc tl
          go_wp2_with fail
          refine (HLD2.out _).mono ?_
          rintro e w14 ⟨rfl, g14⟩
          have hb5 : Blk ((w14.alloc (.cells (verArr fun _ => 0#32) 94)).setRow w14.heap.size (verArr (fld bd))) w14.heap.size 94 (verArr (fld bd)) := (Blk.new w14 _ _ rfl).setRow _
          have hg5 : Grew wz ((w14.alloc (.cells (verArr fun _ => 0#32) 94)).setRow w14.heap.size (verArr (fld bd))) := (g14.alloc _).setRow g14.size _
          have HN5 : Hid (∀ j ∈ ksW (S.take i), ¬ bk j = w14.heap.size) := Lib.hid (fun j hj e => by have := ((HMZ.out.grew g14).blk j hj).lt; omega)
          have hw14 : wa.heap.size ≤ w14.heap.size := by have := g14.size; omega
          have HM5 := Lib.hid (HMZ.out.grew hg5)
          have HB5' := Lib.hid hb5
          have HO5 := Lib.hid (HOZ.out.grew hg5)
          have HS5' := Lib.hid (HSZ.out.grew hg5)
          have HT5' := Lib.hid (HTzz.out.trans (hg5.turned _))
          have hb5l := hb5.lt
          have hlT := HT5'.out.size
          clear hb5 hg5 g14 x0 xl
          have HO5s := HO5
          obtain ⟨wv, hwv⟩ : ∃ wv : World, wv = (w14.alloc (.cells (verArr fun _ => 0#32) 94)).setRow w14.heap.size (verArr (fld bd)) := ⟨_, rfl⟩
          rw [← hwv] at HM5 HB5' HO5 HS5' HT5' hb5l hlT
          have hgb1 : wa.heap.size + 1 ≤ wv.heap.size := by have : (wa.alloc (.map #[] 0)).heap.size = wa.heap.size + 1 := by simp
                                                            omega
          go_wp2_with (first | (refine wpList_store_blk rfl 94 _ _ rfl w14.heap.size (verArr (fld bd)) rfl rfl 94 (verArr fun _ => 0#32) (Blk.new w14 _ _ rfl) (by rw [verArr_size, verArr_size]) (by rw [verArr_size]; exact info_ver) (verArr_one _) ?_) | (at_builtin; refine wpList_push2 rfl _ _ 54 rfl (wa.heap.size + 1) 3 1 8 (.int .i64 0) Try.underlying54 info_int rfl (by decide) (((w14.alloc (.cells (verArr fun _ => 0#32) 94)).setRow w14.heap.size (verArr (fld bd))).alloc (.cells #[.int .i64 (k : Int)] 3)) u13 ((ksW (S.take i)).map fun k : Nat => [.int .i64 (k : Int)]) [.int .i64 (k : Int)] rfl rfl (HO5s.out.alloc _) (w14.heap.size + 1) (by rfl) (Blk.new _ _ _ (by simp)) rfl (by rw [List.length_map]; omega) (by rw [List.length_map]; omega) (by rw [← hwv]; simp; omega) (ksW (S.take i)).length (by rw [List.length_map]) ?_))
          intro g9 cap9 w9 hown9 hgb9 _ _
          rw [← hwv] at hgb9
          have hga9 : Grew wv (wv.alloc (.cells #[.int .i64 (k : Int)] 3)) := (Grew.refl wv).alloc _
          have hr9 := (HO5.out.alloc (.cells #[.int .i64 (k : Int)] 3)).row_ge
          have hT9 : Turned (fun q => wa.heap.size + 1 ≤ q) (wv.alloc (.cells #[.int .i64 (k : Int)] 3)) w9 := ⟨hgb9.os, hgb9.tape, hgb9.output, hgb9.size, fun q hq hn => hgb9.block q hq (fun e9 => hn (hr9 q e9.symm))⟩
          have HS9 := Lib.hid ((HS5'.out.grew hga9).kept hT9 (by have := HLS.out.1; omega) (by have := HLS.out.2; omega))
          have HT9 := Lib.hid ((HT5'.out.trans (hga9.turned _)).trans (hT9.mono fun q _ hq => Or.inr (by omega)))
          have HM9 := Lib.hid ((HM5.out.grew hga9).own (HO5.out.alloc (.cells #[.int .i64 (k : Int)] 3)) (by decide) hgb9)
          have HB9 := Lib.hid ((HB5'.out.alloc (.cells #[.int .i64 (k : Int)] 3)).own hgb9 ((HO5.out.alloc (.cells #[.int .i64 (k : Int)] 3)).ne_blk (HB5'.out.alloc _) (by decide)))
          have HO9 := Lib.hid hown9
          clear hown9 hgb9 hr9 hT9 hga9 hlT hb5l
          go_wp2_with (refine wpList_mapUpdate_is rfl _ _ _ 96 rfl 97 int_keyedI intV_inj Try.underlying96 rfl HM9.out.map (k : Int) HKL.out (ptrV w14.heap.size) rfl rfl ?_; intro w10 hm10 ht10; have HM10 := Lib.hid hm10; have HT10 := Lib.hid ht10; clear hm10 ht10)
          go_roundg (S.length - (i + 1))
          case measure => rw [HGI.out]; omega
          case rel =>
            have HKK : ksW (S.take (i + 1)) = ksW (S.take i) ++ [k] := by rw [HKN.out, HKA.out]
            refine ⟨i + 1, (fun j => if j = k then w14.heap.size else bk j), by omega, by omega, by go_num, by rw [HKK]; exact (HM9.out.snoc (X := fld bd) HIN.out hw14 HB9.out HN5.out HM10.out HT10.out).conv (fun j hj q hq => by (by_cases hjk : j = k; (· rw [if_pos hjk, hjk, HMD.out]); (· rw [if_neg hjk]))), ?_, HS9.out.kept HT10.out (by have := HLS.out.1; omega) (by have := HLS.out.2; omega), HT9.out.trans (HT10.out.mono fun q _ hq => Or.inr (by omega))⟩
            · rw [HKK, List.map_append]
              exact HO9.out.kept HT10.out (fun g hg e => own_map_ne HO9.out HM9.out.map (by rw [hg, e]))
    · obtain rfl : i = S.length := by omega
      have HM1' := HM1
      have HOW' := HOW
      rw [List.take_of_length_le (Nat.le_refl _)] at HM1' HOW'
      obtain ⟨wb, hwb⟩ : ∃ wb : World, wb = wr := ⟨_, rfl⟩
      subst hwb
      have hSne : S ≠ [] := fun e => by rw [e] at HSL; have := HSL.out.2; simp at this; omega
      obtain ⟨hve, hv1, hv2, hv3⟩ := ver_up HVV.out HTV.out
      have hvb := u32_bd v
      have t80 := HB8r.out.cell 1
      have t8l := HB8r.out.lt
      have hKL : 0 < (ksW S).length ∧ (ksW S).length ≤ 32 := by
        refine ⟨?_, by unfold ksW; exact Nat.le_trans (List.length_filter_le _ _) (by rw [List.length_range]; exact Nat.le_refl _)⟩
        obtain ⟨e, S', rfl⟩ := List.exists_cons_of_ne_nil hSne
        have hmem : e.1 / 32 ∈ ksW (e :: S') := (ksW_mem _ _).2 ⟨by have := (HSN.out e (List.mem_cons_self ..)).1; omega, e, List.mem_cons_self .., rfl⟩
        exact List.length_pos_iff.2 (fun h9 => by rw [h9] at hmem; cases hmem)
      obtain ⟨hKL0, hKL1⟩ := hKL
      obtain ⟨go, co, rfl, hgo1, hgo2⟩ := HOW'.out.some_ (fun e => by have := List.map_eq_nil_iff.1 e; rw [this] at hKL0; simp at hKL0)
      rw [List.length_map] at HOW' ⊢
      have hbL : (wa.alloc (.map #[] 0)).heap.size = wa.heap.size + 1 := by simp
      have hLb : wa.heap.size + 1 ≤ wb.heap.size := by have := HT.out.size; omega
      clear HM1 HOW HM0 HSTL HB5L HB8L HBTL HLATL hlt hi HGI
      go_wp2_with fail
      go_loopg [114] S.length (fun gk i' wr => ∃ j : Nat, j ≤ S.length ∧ gk = S.length - j ∧ i' = .int .i64 j ∧ MapsM wr wa.heap.size wa.heap.size (ksW S) bk (fun k q => nm E S v j k q) ∧ Turned (fun q => wa.heap.size ≤ q ∧ q ≠ go) wb wr)
      case atStart => exact ⟨0, by omega, by omega, rfl, HM1'.out.conv (fun k hk q hq => (nm_zero E S v k q).symm), Turned.refl _ _⟩
      case round =>
        obtain ⟨j, hj, hgj, rfl, hmj, htj⟩ := hrel
        have HGJ := Lib.hid hgj
        have HMJ := Lib.hid hmj
        have HTJ := Lib.hid htj
        clear hgj hmj htj
        by_cases hjt : j < S.length
        · have hji : (j : Int) < (S.length : Int) := by omega
          have hlj : ListAt wr wr.heap.size 2 (some ⟨gs, 0, none⟩) ((wlI S).map entC) := listAt_stay HLr.out HTJ.out (fun b off o u9 e hu hq => by
            injection e with e
            injection e with e1 _ _
            omega)
          obtain ⟨hgl, c0, c1⟩ := ent_own hlj hjt
          obtain ⟨a, ha⟩ : ∃ a, S[j].1 = a := ⟨_, rfl⟩
          have han : a < n := by rw [← ha]; exact (HSN.out _ (List.getElem_mem hjt)).1
          obtain ⟨k, hk⟩ : ∃ k : Nat, a / 32 = k := ⟨_, rfl⟩
          obtain ⟨r, hr⟩ : ∃ r : Nat, a % 32 = r := ⟨_, rfl⟩
          have hk32 : k < 32 := by omega
          have hr32 : r < 32 := by omega
          have hri : (0 : Int) ≤ (r : Int) ∧ (r : Int) < 32 := by omega
          have hq1 : (a : Int) / 32 = (k : Int) := by omega
          have hq2 : Int.tdiv (a : Int) 32 = (k : Int) := by rw [Int.tdiv_eq_ediv_of_nonneg (by omega)]; exact hq1
          have hr1 : (a : Int) % 32 = (r : Int) := by omega
          have hr2 : Int.tmod (a : Int) 32 = (r : Int) := by rw [Int.tmod_eq_emod_of_nonneg (by omega)]; exact hr1
          have hkS : k ∈ ksW S := (ksW_mem S k).2 ⟨hk32, S[j], List.getElem_mem hjt, by rw [ha]; exact hk⟩
          rw [ha] at c0
          have hwk : IntKind.i64.wrap (k : Int) = (k : Int) := IntWalk.i64_in _ (by omega)
          have hwr : IntKind.i64.wrap (r : Int) = (r : Int) := IntWalk.i64_in _ (by omega)
          obtain ⟨kl, hkl⟩ := int_key (k : Int) (okI_small _ (by omega))
          obtain ⟨wx, hwx⟩ : ∃ wx : World, wx = (wr.alloc (.cells #[.int .i64 (a : Int), .string S[j].2] 72)).drew := ⟨_, rfl⟩
          have hgx : Grew wr wx := by rw [hwx]; exact ((Grew.refl wr).alloc _).drew
          have hmx := HMJ.out.grew hgx
          have hlk := hmx.map.lookup_val int_keyedI intV_inj Try.underlying96 (zero_ptr _) (k : Int) hkl
          rw [mapF_at, if_pos hkS, Option.getD_some] at hlk
          have hxb : Blk wx wr.heap.size 72 #[.int .i64 (a : Int), .string S[j].2] := by rw [hwx]; exact (Blk.new wr _ _ rfl).drew
          have hbk := hmx.blk k hkS
          have x0 := hxb.cell 0
          have xl := hxb.lt
          have m0 := hbk.cell 0
          rw [verArr_get _ _ (by omega)] at m0
          have mr := hbk.cell r
          rw [verArr_get _ _ hr32] at mr
          have mf := hbk.frozen r
          have ml := hbk.lt
          have HMS := Lib.hid ((hmx.store hkS (j := r) v).conv (V' := fun k q => nm E S v (j + 1) k q) (fun k' hk' q hq => by rw [nm_step E S v j hjt k' q hq, ha, hk, hr]))
          have hbko : ¬ bk k = go := fun e => by
            have h9 : Blk wx go 3 _ := (((show Blk wb go 3 _ from (HOW'.out.block).choose_spec.2.1)).turned HTJ.out (fun h9 => h9.2 rfl)).grew hgx
            exact Blk.ne_ hbk h9 (by decide) e
          have HTS : Hid (Turned (fun q => wa.heap.size ≤ q ∧ q ≠ go) wb (wx.setCell ⟨bk k, r, none⟩ (.int .u32 (u32 v)))) := Lib.hid ((HTJ.out.trans (hgx.turned _)).setCell (p := ⟨bk k, r, none⟩) (fun _ => ⟨hmx.low k hkS, hbko⟩) _)
          clear hlj hkl hgx hmx hxb hbk hkS hbko ha hk hr
          go_wp2_with fail
          refine wp_region_still_tail 10 (by kernel_rfl) (by kernel_rfl) ?_
          simp only [List.take_succ_cons, List.take_zero, List.drop_succ_cons, List.drop_zero]
          change wpStill _ _ (World.drew (wr.alloc (.cells #[.int .i64 (a : Int), .string S[j].2] 72))) (fun a' => wpList _ _ _ _ a' (World.drew (wr.alloc (.cells #[.int .i64 (a : Int), .string S[j].2] 72)))) _ _
          obtain ⟨w22, hw_w22⟩ : ∃ w', w' = World.drew (wr.alloc (.cells #[.int .i64 (a : Int), .string S[j].2] 72)) := ⟨_, rfl⟩
          rw [← hw_w22]
          rw [← hwx] at hw_w22
          subst hw_w22
          clear hwx c0 c1
          repeat still_step
          refine wpStill_nil ?_
          go_wp2_with fail
          go_roundg (S.length - (j + 1))
          case measure => rw [HGJ.out]; omega
          case rel => exact ⟨j + 1, by omega, by omega, by go_num, HMS.out, HTS.out⟩
        · obtain rfl : j = S.length := by omega
          obtain ⟨wc, hwc⟩ : ∃ wc : World, wc = wr := ⟨_, rfl⟩
          subst hwc
          have hbc : wb.heap.size ≤ wc.heap.size := HTJ.out.size
          have HOWc := Lib.hid (HOW'.out.kept HTJ.out (fun g hg h9 => h9.2 (own_some hg)))
          have HBTc := Lib.hid (HBTr.out.turned HTJ.out (fun h9 => by omega))
          have HBXc := Lib.hid (HBX.out.turned HTJ.out (fun h9 => by omega))
          have HLc : Hid (ListAt wc wc.heap.size 2 (some ⟨gs, 0, none⟩) ((wlI S).map entC)) := Lib.hid (listAt_stay HLr.out HTJ.out (fun b off o u9 e hu hq => by
            injection e with e
            injection e with e1 _ _
            omega))
          have HTc : Hid (Turned (fun q => q = m ∨ w1.heap.size ≤ q) w1 wc) := Lib.hid (HTr.out.trans (HTJ.out.mono fun q _ hq => .inr (by omega)))
          have HSc := Lib.hid (HST.out.kept HTJ.out (by have := HLW.out.1.2; omega) (by omega))
          clear hjt hj HGJ HTJ HBX HBTr HB8r HLr HTr HHr HM1' HOW' HST HT t80 t8l hve hv2 hv3
          go_wp2_with fail
          go_loopg [132] (ksW S).length (fun gk i' wr => ∃ q : Nat, q ≤ (ksW S).length ∧ gk = (ksW S).length - q ∧ i' = .int .i64 q ∧ Blk wr gT 94 (verArr (nt td S v q)) ∧ Turned (fun z => z = gT) wc wr)
          case atStart => exact ⟨0, by omega, by omega, rfl, HBTc.out.conv (verArr_congr fun p _ => (nt_zero td S v p).symm), Turned.refl _ _⟩
          case round =>
            obtain ⟨q, hq, hgq, rfl, hbq, htq⟩ := hrel
            have HGQ := Lib.hid hgq
            have HBQ := Lib.hid hbq
            have HTQ := Lib.hid htq
            clear hgq hbq htq
            by_cases hqt : q < (ksW S).length
            · have hqi : (q : Int) < ((ksW S).length : Int) := by omega
              have hor := HOWc.out.kept HTQ.out (fun g hg h9 => by have := own_some hg; omega)
              obtain ⟨o0, ol⟩ := own_int hor hqt
              have HNT := Lib.hid (nt_step td S v q hqt)
              obtain ⟨k, hk⟩ : ∃ k, (ksW S)[q] = k := ⟨_, rfl⟩
              have hk32 : k < 32 := by rw [← hk]; exact ((ksW_mem S _).1 (List.getElem_mem hqt)).1
              have hki : (0 : Int) ≤ (k : Int) ∧ (k : Int) < 32 := by omega
              rw [hk] at o0 HNT
              have b0 := HBQ.out.cell k
              rw [verArr_get _ _ hk32] at b0
              have bf := HBQ.out.frozen k
              have bl := HBQ.out.lt
              have HB2 := Lib.hid (((HBQ.out.set_ k (.int .u32 (u32 v))).conv (by rw [verArr_set])).conv (verArr_congr fun p _ => HNT.out p))
              have HT2q := Lib.hid (HTQ.out.setCell (p := ⟨gT, k, none⟩) (fun _ => rfl) (.int .u32 (u32 v)))
              clear hor hk
              go_wp2_with fail
              go_roundg ((ksW S).length - (q + 1))
              case measure => rw [HGQ.out]; omega
              case rel => exact ⟨q + 1, by omega, by omega, by go_num, HB2.out, HT2q.out⟩
            · obtain rfl : q = (ksW S).length := by omega
              obtain ⟨wd, hwd⟩ : ∃ wd : World, wd = wr := ⟨_, rfl⟩
              subst hwd
              have hcd : wc.heap.size ≤ wd.heap.size := HTQ.out.size
              have HOWd := Lib.hid (HOWc.out.kept HTQ.out (fun g hg h9 => by have := own_some hg; omega))
              have HBXd := Lib.hid (HBXc.out.turned HTQ.out (fun h9 => by omega))
              have HLd : Hid (ListAt wd wd.heap.size 2 (some ⟨gs, 0, none⟩) ((wlI S).map entC)) := Lib.hid (listAt_stay HLc.out HTQ.out (fun b off o u9 e hu hq => by
                injection e with e
                injection e with e1 _ _
                omega))
              have HMd := Lib.hid (HMJ.out.kept HTQ.out (by omega) (fun k hk h9 => by have := HMJ.out.low k hk; omega))
              have HTd : Hid (Turned (fun q => q = m ∨ w1.heap.size ≤ q) w1 wd) := Lib.hid (HTc.out.trans (HTQ.out.mono fun q _ hq => .inr (by omega)))
              have HSd := Lib.hid (HSc.out.kept HTQ.out (by have := HLW.out.1.2; omega) (by omega))
              have HNT := Lib.hid (nt_end E td S v HTF.out)
              have HNM := Lib.hid (fun k => nm_end E S v k)
              clear hqt hq HGQ HTQ HOWc HBXc HLc HMJ HTc HSc HBTc
              have HVD := Lib.hid (vdata_any _ _ _ HBQ.out)
              rw [HNT.out] at HVD
              go_wp2_with fail
              refine HVD.out.mono ?_
              rintro e we ⟨rfl, ge⟩
              have HGE := Lib.hid ge
              have HPQ := Lib.hid (pack_any (vbytes (newTop E S v)) v 0 we (by rw [vbytes_size]; unfold newTop; rw [List.length_map, List.length_range]; omega) (okI_small 0 (by omega)))
              clear ge
              go_wp2_with fail
              refine HPQ.out.mono ?_
              rintro e wf ⟨rfl, gf⟩
              have HGF := Lib.hid (HGE.out.trans gf)
              have HG0E : Hid (Grew wd ((wf.alloc (.cells #[.int .i64 0, .string (packS (vbytes (newTop E S v)) v 0)] 101)).alloc (.cells #[.slice (some ⟨wf.heap.size, 0, none⟩) 1 1] 102))) := Lib.hid ((HGF.out.alloc _).alloc _)
              have HO0E : Hid (OwnL ((wf.alloc (.cells #[.int .i64 0, .string (packS (vbytes (newTop E S v)) v 0)] 101)).alloc (.cells #[.slice (some ⟨wf.heap.size, 0, none⟩) 1 1] 102)) wd.heap.size 101 2 (.slice (some ⟨wf.heap.size, 0, none⟩) 1 1) ([en0 E S v].map entC)) := Lib.hid ((OwnL.lit wf wd.heap.size 101 2 (entC (en0 E S v)) rfl HGF.out.size rfl).alloc _)
              have HB0E : Hid (Blk ((wf.alloc (.cells #[.int .i64 0, .string (packS (vbytes (newTop E S v)) v 0)] 101)).alloc (.cells #[.slice (some ⟨wf.heap.size, 0, none⟩) 1 1] 102)) (wf.heap.size + 1) 102 #[.slice (some ⟨wf.heap.size, 0, none⟩) 1 1]) := Lib.hid (Blk.new _ _ _ (by simp))
              have hdf : wd.heap.size ≤ wf.heap.size := HGF.out.size
              clear gf
              go_wp2_with fail
              go_loopg [147] (ksW S).length (fun gk i' wr => ∃ (q : Nat) (u : Value), q ≤ (ksW S).length ∧ gk = (ksW S).length - q ∧ i' = .int .i64 q ∧ Blk wr (wf.heap.size + 1) 102 #[u] ∧ OwnL wr wd.heap.size 101 2 u ((en0 E S v :: enM E S v q).map entC) ∧ Grew wd wr)
              case atStart => exact ⟨0, _, by omega, by omega, rfl, HB0E.out, by rw [show enM E S v 0 = [] from rfl]; exact HO0E.out, HG0E.out⟩
              case round =>
                obtain ⟨q, u, hq, hgq, rfl, hbe, hoe, hge⟩ := hrel
                have HGQ := Lib.hid hgq
                have HBE := Lib.hid hbe
                have HOE := Lib.hid hoe
                have HGR := Lib.hid hge
                clear hgq hbe hoe hge
                by_cases hqt : q < (ksW S).length
                · have hqi : (q : Int) < ((ksW S).length : Int) := by omega
                  obtain ⟨o0, ol⟩ := own_int (HOWd.out.grew HGR.out) hqt
                  have HST4 := Lib.hid (enM_step E S v q hqt)
                  obtain ⟨k, hk⟩ : ∃ k, (ksW S)[q] = k := ⟨_, rfl⟩
                  have hkS : k ∈ ksW S := by rw [← hk]; exact List.getElem_mem hqt
                  have hk32 : k < 32 := ((ksW_mem S _).1 hkS).1
                  rw [hk] at o0 HST4
                  obtain ⟨kl, hkl⟩ := int_key (k : Int) (okI_small _ (by omega))
                  have HLKUP : Hid (∀ w', Grew wr w' → (Instr.lookup 96 (.map (some wa.heap.size)) (.int .i64 (k : Int)) false).run Try.prog w' = .ok (ptrV (bk k)) w') := Lib.hid (fun w' hg => by
                    have hlk := ((HMd.out.grew HGR.out).grew hg).map.lookup_val int_keyedI intV_inj Try.underlying96 (zero_ptr _) (k : Int) hkl
                    rw [mapF_at, if_pos hkS, Option.getD_some] at hlk
                    exact hlk)
                  have HSF : Hid (∀ w', Grew wr w' → (fun w' : World => w'.cell? ⟨wf.heap.size + 1, 0, none⟩ = some u ∧ wf.heap.size + 1 < w'.heap.size ∧ (Instr.lookup 96 (.map (some wa.heap.size)) (.int .i64 (k : Int)) false).run Try.prog w' = .ok (ptrV (bk k)) w') w') := Lib.hid (fun w' hg => ⟨(HBE.out.grew hg).cell 0, (HBE.out.grew hg).lt, HLKUP.out w' hg⟩)
                  have HBK := Lib.hid ((HMd.out.grew HGR.out).blk k hkS)
                  have hwk : IntKind.i64.wrap (1 + (k : Int)) = 1 + (k : Int) := IntWalk.i64_in _ (by omega)
                  have hwk2 : IntKind.i64.wrap (k : Int) = (k : Int) := IntWalk.i64_in _ (by omega)
                  have HPK := Lib.hid (fun w => pack_any (vbytes (newMap E S v k)) v (1 + (k : Int)) w (by rw [vbytes_size]; unfold newMap; rw [List.length_map, List.length_range]; omega) (okI_small _ (by omega)))
                  have hrl : (en0 E S v :: enM E S v q).length ≤ 33 := by rw [List.length_cons]; have := enM_len E S v q; omega
                  have hfr : wf.heap.size + 1 < wr.heap.size := HBE.out.lt
                  clear hkl hkS hk
                  go_wp2_with fail
                  refine wp_region_R [13, 14] (fun w' : World => w'.cell? ⟨wf.heap.size + 1, 0, none⟩ = some u ∧ wf.heap.size + 1 < w'.heap.size ∧ (Instr.lookup 96 (.map (some wa.heap.size)) (.int .i64 (k : Int)) false).run Try.prog w' = .ok (ptrV (bk k)) w') (by kernel_rfl) ?_
                  have hS := HSF.out wr.drew (Grew.refl wr).drew
                  refine wpAnyR_take (i := 0) (v := ?_) [13, 14] (some 151) rfl rfl (by kernel_rfl) (by kernel_rfl) (by kernel_rfl) (by kernel_rfl) (by kernel_rfl) (by kernel_rfl) (by kernel_rfl) (fun _ _ _ h => h) (Or.inl ⟨by rfl, ?_⟩) hS ?_
                  rotate_left
                  focus (intro wS hSw; (try dsimp only at hSw); go_simp; (try with_reducible rfl); (try (first | (rw [if_pos (by omega)]; (try go_simp); (try with_reducible rfl)) | (rw [if_neg (by omega)]; (try go_simp); (try with_reducible rfl)))))
                  try simp only [Act.put, List.setIfInBounds_toArray, List.set_cons_zero, List.set_cons_succ]
                  refine wpAnyR_takeQ (i := 1) (v := ?_) (some 152) rfl rfl (by kernel_rfl) (by kernel_rfl) (by kernel_rfl) (by kernel_rfl) (fun _ _ _ h => h) (Or.inl ⟨by rfl, ?_⟩) ?_
                  rotate_left
                  focus (intro wS hSw; (try dsimp only at hSw); go_simp; (try with_reducible rfl); (try (first | (rw [if_pos (by omega)]; (try go_simp); (try with_reducible rfl)) | (rw [if_neg (by omega)]; (try go_simp); (try with_reducible rfl)))))
                  try simp only [Act.put, List.setIfInBounds_toArray, List.set_cons_zero, List.set_cons_succ]
                  refine wpAnyR_takeQ (i := 2) (v := ?_) (some 153) rfl rfl (by kernel_rfl) (by kernel_rfl) (by kernel_rfl) (by kernel_rfl) (fun _ _ _ h => h) (Or.inl ⟨by rfl, ?_⟩) ?_
                  rotate_left
                  focus (intro wS hSw; (try dsimp only at hSw); go_simp; (try with_reducible rfl); (try (first | (rw [if_pos (by omega)]; (try go_simp); (try with_reducible rfl)) | (rw [if_neg (by omega)]; (try go_simp); (try with_reducible rfl)))))
                  try simp only [Act.put, List.setIfInBounds_toArray, List.set_cons_zero, List.set_cons_succ]
                  refine wpAnyR_takeQ (i := 3) (v := ?_) (some 154) rfl rfl (by kernel_rfl) (by kernel_rfl) (by kernel_rfl) (by kernel_rfl) (fun _ _ _ h => h) (Or.inl ⟨by rfl, ?_⟩) ?_
                  rotate_left
                  focus (intro wS hSw; (try dsimp only at hSw); go_simp; (try with_reducible rfl); (try (first | (rw [if_pos (by omega)]; (try go_simp); (try with_reducible rfl)) | (rw [if_neg (by omega)]; (try go_simp); (try with_reducible rfl)))))
                  try simp only [Act.put, List.setIfInBounds_toArray, List.set_cons_zero, List.set_cons_succ]
                  refine wpAnyR_takeQ (i := 4) (v := ?_) (some 155) rfl rfl (by kernel_rfl) (by kernel_rfl) (by kernel_rfl) (by kernel_rfl) (fun _ _ _ h => h) (Or.inl ⟨by rfl, ?_⟩) ?_
                  rotate_left
                  focus (intro wS hSw; (try dsimp only at hSw); go_simp; (try with_reducible rfl); (try (first | (rw [if_pos (by omega)]; (try go_simp); (try with_reducible rfl)) | (rw [if_neg (by omega)]; (try go_simp); (try with_reducible rfl)))))
                  try simp only [Act.put, List.setIfInBounds_toArray, List.set_cons_zero, List.set_cons_succ]
                  refine wpAnyR_take (i := 5) (v := ?_) [6, 10, 11, 12, 13, 14] (some 156) rfl rfl (by kernel_rfl) (by kernel_rfl) (by kernel_rfl) (by kernel_rfl) (by kernel_rfl) (by kernel_rfl) (by kernel_rfl) (fun _ _ _ h => h) (Or.inl ⟨by rfl, ?_⟩) hS ?_
                  rotate_left
                  focus (intro wS hSw; (try dsimp only at hSw); go_simp; (try with_reducible rfl); (try (first | (rw [if_pos (by omega)]; (try go_simp); (try with_reducible rfl)) | (rw [if_neg (by omega)]; (try go_simp); (try with_reducible rfl)))))
                  try simp only [Act.put, List.setIfInBounds_toArray, List.set_cons_zero, List.set_cons_succ]
                  refine wpAnyR_takeQ (i := 7) (v := ?_) (some 158) rfl rfl (by kernel_rfl) (by kernel_rfl) (by kernel_rfl) (by kernel_rfl) (fun _ _ _ h => h) (Or.inl ⟨by rfl, ?_⟩) ?_
                  rotate_left
                  focus (intro wS hSw; (try dsimp only at hSw); go_simp; (try with_reducible rfl); (try (first | (rw [if_pos (by omega)]; (try go_simp); (try with_reducible rfl)) | (rw [if_neg (by omega)]; (try go_simp); (try with_reducible rfl)))))
                  try simp only [Act.put, List.setIfInBounds_toArray, List.set_cons_zero, List.set_cons_succ]
                  refine wpAnyR_takeQ (i := 8) (v := ?_) (some 159) rfl rfl (by kernel_rfl) (by kernel_rfl) (by kernel_rfl) (by kernel_rfl) (fun _ _ _ h => h) (Or.inl ⟨by rfl, ?_⟩) ?_
                  rotate_left
                  focus (intro wS hSw; (try dsimp only at hSw); go_simp; (try with_reducible rfl); (try (first | (rw [if_pos (by omega)]; (try go_simp); (try with_reducible rfl)) | (rw [if_neg (by omega)]; (try go_simp); (try with_reducible rfl)))))
                  try simp only [Act.put, List.setIfInBounds_toArray, List.set_cons_zero, List.set_cons_succ]
                  refine wpAnyR_takeQ (i := 9) (v := ?_) (some 160) rfl rfl (by kernel_rfl) (by kernel_rfl) (by kernel_rfl) (by kernel_rfl) (fun _ _ _ h => h) (Or.inl ⟨by rfl, ?_⟩) ?_
                  rotate_left
                  focus (intro wS hSw; (try dsimp only at hSw); go_simp; (try with_reducible rfl); (try (first | (rw [if_pos (by omega)]; (try go_simp); (try with_reducible rfl)) | (rw [if_neg (by omega)]; (try go_simp); (try with_reducible rfl)))))
                  try simp only [Act.put, List.setIfInBounds_toArray, List.set_cons_zero, List.set_cons_succ]
                  refine wpAnyR_n1 (i := 6) rfl (by kernel_rfl) ?_
                  intro K' hK
                  rw [if_pos (by rfl)]
                  simp only [List.getElem_toArray, List.getElem_cons_succ, List.getElem_cons_zero]
                  go_wp2_with fail
                  refine (vdata_any _ _ _ (HBK.out.drew)).mono ?_
                  rintro e wg ⟨rfl, gg⟩
                  have HGG : Hid (Grew wr wg) := Lib.hid ((Grew.refl wr).drew.trans gg)
                  rw [HNM.out]
                  clear gg
                  go_wp2_with fail
                  refine hK.out _ _ (.inr (fun _ => HSF.out wg HGG.out)) ?_
                  clear hK hS
                  refine wpAnyR_n1 (i := 10) rfl (by kernel_rfl) ?_
                  intro K' hK
                  rw [if_pos (by rfl)]
                  simp only [List.getElem_toArray, List.getElem_cons_succ, List.getElem_cons_zero]
                  go_wp2_with fail
                  refine (HPK.out wg).mono ?_
                  rintro e wh ⟨rfl, gh⟩
                  have HGH := Lib.hid (HGG.out.trans gh)
                  clear gh
                  go_wp2_with fail
                  refine hK.out _ _ (.inr (fun _ => HSF.out wh HGH.out)) ?_
                  clear hK
                  refine wpAnyR_takeQ (i := 11) (v := ?_) (some 162) rfl rfl (by kernel_rfl) (by kernel_rfl) (by kernel_rfl) (by kernel_rfl) (fun _ _ _ h => h) (Or.inl ⟨by rfl, ?_⟩) ?_
                  rotate_left
                  focus (intro wS hSw; (try dsimp only at hSw); go_simp; (try with_reducible rfl); (try (first | (rw [if_pos (by omega)]; (try go_simp); (try with_reducible rfl)) | (rw [if_neg (by omega)]; (try go_simp); (try with_reducible rfl)))))
                  try simp only [Act.put, List.setIfInBounds_toArray, List.set_cons_zero, List.set_cons_succ]
                  refine wpAnyR_n1 (i := 12) rfl (by kernel_rfl) ?_
                  intro K' hK
                  rw [if_pos (by rfl)]
                  simp only [List.getElem_toArray, List.getElem_cons_succ, List.getElem_cons_zero]
                  go_wp2_with fail
                  refine hK.out _ _ (.inr (fun _ => HSF.out _ (HGH.out.alloc _))) ?_
                  clear hK
                  have hdh : wd.heap.size ≤ wh.heap.size := (HGR.out.trans HGH.out).size
                  refine wpAnyR_n1 (i := 13) rfl (by kernel_rfl) ?_
                  intro K' hK
                  rw [if_pos (by rfl)]
                  simp only [List.getElem_toArray, List.getElem_cons_succ, List.getElem_cons_zero]
                  refine wp_push (.tmp 151) (.tmp 163) 102 rfl wd.heap.size 101 2 24 _ Try.underlying102 info_ent rfl (by decide) _ u ((en0 E S v :: enM E S v q).map entC) (entC (1 + (k : Int), packS (vbytes (newMap E S v k)) v (1 + (k : Int)))) rfl rfl ((HOE.out.grew HGH.out).alloc _) wh.heap.size rfl (Blk.new wh _ _ rfl) rfl (by rw [List.length_map]; omega) (by rw [List.length_map]; omega) (by simp; omega) (en0 E S v :: enM E S v q).length (by rw [List.length_map]) ?_
                  intro g9 cap9 w9 hown9 hgb9 _ _
                  have hb9 := ((HBE.out.grew HGH.out).alloc (.cells #[.int .i64 (1 + (k : Int)), .string (packS (vbytes (newMap E S v k)) v (1 + (k : Int)))] 101)).own hgb9 (HOE.out.ne_blk HBE.out (by decide))
                  have hg9 := ((HGR.out.trans HGH.out).alloc (.cells #[.int .i64 (1 + (k : Int)), .string (packS (vbytes (newMap E S v k)) v (1 + (k : Int)))] 101)).own hgb9 HOE.out.row_ge (Nat.le_refl _)
                  have HB9 := Lib.hid (hb9.set_ 0 (.slice (some ⟨g9, 0, none⟩) ((en0 E S v :: enM E S v q).length + 1) cap9))
                  have HO9 := Lib.hid (hown9.far (p := ⟨wf.heap.size + 1, 0, none⟩) (hown9.ne_blk hb9 (by decide)) (.slice (some ⟨g9, 0, none⟩) ((en0 E S v :: enM E S v q).length + 1) cap9))
                  have HG9 := Lib.hid (hg9.setCell (p := ⟨wf.heap.size + 1, 0, none⟩) (by show wd.heap.size ≤ wf.heap.size + 1; omega) (.slice (some ⟨g9, 0, none⟩) ((en0 E S v :: enM E S v q).length + 1) cap9))
                  have b9 := hb9.cell 0
                  have f9 := hb9.frozen 0
                  have l9 := hb9.lt
                  refine hK.out _ _ (.inl (by rfl)) ?_
                  clear hK hown9 hgb9 hb9 hg9
                  try simp only [Act.put, List.setIfInBounds_toArray, List.set_cons_zero, List.set_cons_succ]
                  refine wpAnyR_n1 (i := 14) rfl (by kernel_rfl) ?_
                  intro K' hK
                  rw [if_pos (by rfl)]
                  simp only [List.getElem_toArray, List.getElem_cons_succ, List.getElem_cons_zero]
                  go_wp2_with fail
                  refine hK.out _ _ (.inl (by rfl)) ?_
                  clear hK b9 f9 l9
                  refine wpAnyR_done (by kernel_rfl) ?_ _
                  go_wp2_with fail
                  go_roundg ((ksW S).length - (q + 1))
                  case measure => rw [HGQ.out]; omega
                  case rel => exact ⟨q + 1, _, by omega, by omega, by go_num, HB9.out, by rw [HST4.out, ← List.cons_append, List.map_append]; exact HO9.out, HG9.out⟩
                · obtain rfl : q = (ksW S).length := by omega
                  clear hqt hq HGQ
                  go_wp2_with fail
                  go_loopg [168] S.length (fun gk i' wr => ∃ (q : Nat) (u : Value), q ≤ S.length ∧ gk = S.length - q ∧ i' = .int .i64 q ∧ Blk wr (wf.heap.size + 1) 102 #[u] ∧ OwnL wr wd.heap.size 101 2 u ((en0 E S v :: (enM E S v (ksW S).length ++ enD S v q)).map entC) ∧ Grew wd wr)
                  case atStart => exact ⟨0, _, by omega, by omega, rfl, HBE.out, by rw [show enD S v 0 = [] from rfl, List.append_nil]; exact HOE.out, HGR.out⟩
                  case round =>
                    clear HBE HOE HGR
                    obtain ⟨q, u, hq, hgq, rfl, hbe, hoe, hge⟩ := hrel
                    have HGQ := Lib.hid hgq
                    have HBE := Lib.hid hbe
                    have HOE := Lib.hid hoe
                    have HGR := Lib.hid hge
                    clear hgq hbe hoe hge
                    by_cases hqt : q < S.length
                    · have hqi : (q : Int) < (S.length : Int) := by omega
                      obtain ⟨ol, c0, c1⟩ := ent_own (listAt_on HLd.out HGR.out) hqt
                      have HST5 := Lib.hid (enD_step S v q hqt)
                      have hsn := HSN.out _ (List.getElem_mem hqt)
                      obtain ⟨⟨a, ds⟩, ha⟩ : ∃ e, S[q] = e := ⟨_, rfl⟩
                      rw [ha] at HST5 c0 c1 hsn
                      simp only at HST5 c0 c1 hsn
                      obtain ⟨hsn1, hsn2⟩ := hsn
                      have hxb : Blk (wr.alloc (.cells #[.int .i64 (a : Int), .string ds] 72)) wr.heap.size 72 #[.int .i64 (a : Int), .string ds] := Blk.new wr _ _ rfl
                      have hgx : Grew wr (wr.alloc (.cells #[.int .i64 (a : Int), .string ds] 72)) := (Grew.refl wr).alloc _
                      have HSF : Hid (∀ w', Grew (wr.alloc (.cells #[.int .i64 (a : Int), .string ds] 72)) w' → (fun w' : World => w'.cell? ⟨wf.heap.size + 1, 0, none⟩ = some u ∧ wf.heap.size + 1 < w'.heap.size ∧ w'.cell? ⟨wr.heap.size, 0, none⟩ = some (.int .i64 (a : Int)) ∧ w'.cell? ⟨wr.heap.size, 1, none⟩ = some (.string ds) ∧ wr.heap.size < w'.heap.size) w') := Lib.hid (fun w' hg => ⟨(HBE.out.grew (hgx.trans hg)).cell 0, (HBE.out.grew (hgx.trans hg)).lt, (hxb.grew hg).cell 0, (hxb.grew hg).cell 1, (hxb.grew hg).lt⟩)
                      have HGX := Lib.hid hgx
                      have hwk : IntKind.i64.wrap (131 + (a : Int)) = 131 + (a : Int) := IntWalk.i64_in _ (by omega)
                      have HPK := Lib.hid (fun w => pack_any ds v (131 + (a : Int)) w (by omega) (okI_small _ (by omega)))
                      have hrl : (en0 E S v :: (enM E S v (ksW S).length ++ enD S v q)).length ≤ 97 := by rw [List.length_cons, List.length_append]; have := enM_len E S v (ksW S).length; have := enD_len S v q; omega
                      obtain ⟨rl, hrle⟩ : ∃ rl, (en0 E S v :: (enM E S v (ksW S).length ++ enD S v q)).length = rl := ⟨_, rfl⟩
                      have hfr : wf.heap.size + 1 < wr.heap.size := HBE.out.lt
                      obtain ⟨wx, hwx⟩ : ∃ wx : World, wx = wr.alloc (.cells #[.int .i64 (a : Int), .string ds] 72) := ⟨_, rfl⟩
                      rw [← hwx] at HSF HGX
                      clear hxb hgx ha
                      go_wp2_with fail
                      rw [← hwx]
                      clear hwx c0 c1
                      refine wp_region_R [13, 14] (fun w' : World => w'.cell? ⟨wf.heap.size + 1, 0, none⟩ = some u ∧ wf.heap.size + 1 < w'.heap.size ∧ w'.cell? ⟨wr.heap.size, 0, none⟩ = some (.int .i64 (a : Int)) ∧ w'.cell? ⟨wr.heap.size, 1, none⟩ = some (.string ds) ∧ wr.heap.size < w'.heap.size) (by kernel_rfl) ?_
                      have hS := HSF.out wx.drew (Grew.refl wx).drew
                      refine wpAnyR_take (i := 0) (v := ?_) [13, 14] (some 172) rfl rfl (by kernel_rfl) (by kernel_rfl) (by kernel_rfl) (by kernel_rfl) (by kernel_rfl) (by kernel_rfl) (by kernel_rfl) (fun _ _ _ h => h) (Or.inl ⟨by rfl, ?_⟩) hS ?_
                      rotate_left
                      focus (intro wS hSw; (try dsimp only at hSw); go_simp; (try with_reducible rfl); (try (first | (rw [if_pos (by omega)]; (try go_simp); (try with_reducible rfl)) | (rw [if_neg (by omega)]; (try go_simp); (try with_reducible rfl)))))
                      try simp only [Act.put, List.setIfInBounds_toArray, List.set_cons_zero, List.set_cons_succ]
                      refine wpAnyR_takeQ (i := 1) (v := ?_) (some 173) rfl rfl (by kernel_rfl) (by kernel_rfl) (by kernel_rfl) (by kernel_rfl) (fun _ _ _ h => h) (Or.inl ⟨by rfl, ?_⟩) ?_
                      rotate_left
                      focus (intro wS hSw; (try dsimp only at hSw); go_simp; (try with_reducible rfl); (try (first | (rw [if_pos (by omega)]; (try go_simp); (try with_reducible rfl)) | (rw [if_neg (by omega)]; (try go_simp); (try with_reducible rfl)))))
                      try simp only [Act.put, List.setIfInBounds_toArray, List.set_cons_zero, List.set_cons_succ]
                      refine wpAnyR_take (i := 2) (v := ?_) [3, 11, 12, 13, 14] (some 174) rfl rfl (by kernel_rfl) (by kernel_rfl) (by kernel_rfl) (by kernel_rfl) (by kernel_rfl) (by kernel_rfl) (by kernel_rfl) (fun _ _ _ h => h) (Or.inl ⟨by rfl, ?_⟩) hS ?_
                      rotate_left
                      focus (intro wS hSw; (try dsimp only at hSw); go_simp; (try with_reducible rfl); (try (first | (rw [if_pos (by omega)]; (try go_simp); (try with_reducible rfl)) | (rw [if_neg (by omega)]; (try go_simp); (try with_reducible rfl)))))
                      try simp only [Act.put, List.setIfInBounds_toArray, List.set_cons_zero, List.set_cons_succ]
                      refine wpAnyR_takeQ (i := 3) (v := ?_) (some 175) rfl rfl (by kernel_rfl) (by kernel_rfl) (by kernel_rfl) (by kernel_rfl) (fun _ _ _ h => h) (Or.inl ⟨by rfl, ?_⟩) ?_
                      rotate_left
                      focus (intro wS hSw; (try dsimp only at hSw); go_simp; (try with_reducible rfl); (try (first | (rw [if_pos (by omega)]; (try go_simp); (try with_reducible rfl)) | (rw [if_neg (by omega)]; (try go_simp); (try with_reducible rfl)))))
                      try simp only [Act.put, List.setIfInBounds_toArray, List.set_cons_zero, List.set_cons_succ]
                      refine wpAnyR_takeQ (i := 4) (v := ?_) (some 176) rfl rfl (by kernel_rfl) (by kernel_rfl) (by kernel_rfl) (by kernel_rfl) (fun _ _ _ h => h) (Or.inl ⟨by rfl, ?_⟩) ?_
                      rotate_left
                      focus (intro wS hSw; (try dsimp only at hSw); go_simp; (try with_reducible rfl); (try (first | (rw [if_pos (by omega)]; (try go_simp); (try with_reducible rfl)) | (rw [if_neg (by omega)]; (try go_simp); (try with_reducible rfl)))))
                      try simp only [Act.put, List.setIfInBounds_toArray, List.set_cons_zero, List.set_cons_succ]
                      refine wpAnyR_take (i := 5) (v := ?_) [10, 11, 12, 13, 14] (some 177) rfl rfl (by kernel_rfl) (by kernel_rfl) (by kernel_rfl) (by kernel_rfl) (by kernel_rfl) (by kernel_rfl) (by kernel_rfl) (fun _ _ _ h => h) (Or.inl ⟨by rfl, ?_⟩) hS ?_
                      rotate_left
                      focus (intro wS hSw; (try dsimp only at hSw); go_simp; (try with_reducible rfl); (try (first | (rw [if_pos (by omega)]; (try go_simp); (try with_reducible rfl)) | (rw [if_neg (by omega)]; (try go_simp); (try with_reducible rfl)))))
                      try simp only [Act.put, List.setIfInBounds_toArray, List.set_cons_zero, List.set_cons_succ]
                      refine wpAnyR_takeQ (i := 6) (v := ?_) (some 178) rfl rfl (by kernel_rfl) (by kernel_rfl) (by kernel_rfl) (by kernel_rfl) (fun _ _ _ h => h) (Or.inl ⟨by rfl, ?_⟩) ?_
                      rotate_left
                      focus (intro wS hSw; (try dsimp only at hSw); go_simp; (try with_reducible rfl); (try (first | (rw [if_pos (by omega)]; (try go_simp); (try with_reducible rfl)) | (rw [if_neg (by omega)]; (try go_simp); (try with_reducible rfl)))))
                      try simp only [Act.put, List.setIfInBounds_toArray, List.set_cons_zero, List.set_cons_succ]
                      refine wpAnyR_takeQ (i := 7) (v := ?_) (some 179) rfl rfl (by kernel_rfl) (by kernel_rfl) (by kernel_rfl) (by kernel_rfl) (fun _ _ _ h => h) (Or.inl ⟨by rfl, ?_⟩) ?_
                      rotate_left
                      focus (intro wS hSw; (try dsimp only at hSw); go_simp; (try with_reducible rfl); (try (first | (rw [if_pos (by omega)]; (try go_simp); (try with_reducible rfl)) | (rw [if_neg (by omega)]; (try go_simp); (try with_reducible rfl)))))
                      try simp only [Act.put, List.setIfInBounds_toArray, List.set_cons_zero, List.set_cons_succ]
                      refine wpAnyR_take (i := 8) (v := ?_) [9, 10, 11, 12, 13, 14] (some 180) rfl rfl (by kernel_rfl) (by kernel_rfl) (by kernel_rfl) (by kernel_rfl) (by kernel_rfl) (by kernel_rfl) (by kernel_rfl) (fun _ _ _ h => h) (Or.inl ⟨by rfl, ?_⟩) hS ?_
                      rotate_left
                      focus (intro wS hSw; (try dsimp only at hSw); go_simp; (try with_reducible rfl); (try (first | (rw [if_pos (by omega)]; (try go_simp); (try with_reducible rfl)) | (rw [if_neg (by omega)]; (try go_simp); (try with_reducible rfl)))))
                      try simp only [Act.put, List.setIfInBounds_toArray, List.set_cons_zero, List.set_cons_succ]
                      refine wpAnyR_takeQ (i := 9) (v := ?_) (some 181) rfl rfl (by kernel_rfl) (by kernel_rfl) (by kernel_rfl) (by kernel_rfl) (fun _ _ _ h => h) (Or.inl ⟨by rfl, ?_⟩) ?_
                      rotate_left
                      focus (intro wS hSw; (try dsimp only at hSw); go_simp; (try with_reducible rfl); (try (first | (rw [if_pos (by omega)]; (try go_simp); (try with_reducible rfl)) | (rw [if_neg (by omega)]; (try go_simp); (try with_reducible rfl)))))
                      try simp only [Act.put, List.setIfInBounds_toArray, List.set_cons_zero, List.set_cons_succ]
                      refine wpAnyR_n1 (i := 10) rfl (by kernel_rfl) ?_
                      intro K' hK
                      rw [if_pos (by rfl)]
                      simp only [List.getElem_toArray, List.getElem_cons_succ, List.getElem_cons_zero]
                      go_wp2_with fail
                      refine (HPK.out wx.drew).mono ?_
                      rintro e wh ⟨rfl, gh⟩
                      have HGXH := Lib.hid ((Grew.refl wx).drew.trans gh)
                      have HGH := Lib.hid (HGX.out.trans HGXH.out)
                      clear gh
                      go_wp2_with fail
                      refine hK.out _ _ (.inr (fun _ => HSF.out wh HGXH.out)) ?_
                      clear hK hS
                      refine wpAnyR_takeQ (i := 11) (v := ?_) (some 183) rfl rfl (by kernel_rfl) (by kernel_rfl) (by kernel_rfl) (by kernel_rfl) (fun _ _ _ h => h) (Or.inl ⟨by rfl, ?_⟩) ?_
                      rotate_left
                      focus (intro wS hSw; (try dsimp only at hSw); go_simp; (try with_reducible rfl); (try (first | (rw [if_pos (by omega)]; (try go_simp); (try with_reducible rfl)) | (rw [if_neg (by omega)]; (try go_simp); (try with_reducible rfl)))))
                      try simp only [Act.put, List.setIfInBounds_toArray, List.set_cons_zero, List.set_cons_succ]
                      refine wpAnyR_n1 (i := 12) rfl (by kernel_rfl) ?_
                      intro K' hK
                      rw [if_pos (by rfl)]
                      simp only [List.getElem_toArray, List.getElem_cons_succ, List.getElem_cons_zero]
                      go_wp2_with fail
                      refine hK.out _ _ (.inr (fun _ => HSF.out _ (HGXH.out.alloc _))) ?_
                      clear hK
                      have hdh : wd.heap.size ≤ wh.heap.size := (HGR.out.trans HGH.out).size
                      refine wpAnyR_n1 (i := 13) rfl (by kernel_rfl) ?_
                      intro K' hK
                      rw [if_pos (by rfl)]
                      simp only [List.getElem_toArray, List.getElem_cons_succ, List.getElem_cons_zero]
                      refine wp_push (.tmp 172) (.tmp 184) 102 rfl wd.heap.size 101 2 24 _ Try.underlying102 info_ent rfl (by decide) _ u ((en0 E S v :: (enM E S v (ksW S).length ++ enD S v q)).map entC) (entC (131 + (a : Int), packS ds v (131 + (a : Int)))) rfl rfl ((HOE.out.grew HGH.out).alloc _) wh.heap.size rfl (Blk.new wh _ _ rfl) rfl (by rw [List.length_map]; omega) (by rw [List.length_map]; omega) (by simp; omega) rl (by rw [List.length_map]; exact hrle) ?_
                      intro g9 cap9 w9 hown9 hgb9 _ _
                      have hb9 := ((HBE.out.grew HGH.out).alloc (.cells #[.int .i64 (131 + (a : Int)), .string (packS ds v (131 + (a : Int)))] 101)).own hgb9 (HOE.out.ne_blk HBE.out (by decide))
                      have hg9 := ((HGR.out.trans HGH.out).alloc (.cells #[.int .i64 (131 + (a : Int)), .string (packS ds v (131 + (a : Int)))] 101)).own hgb9 HOE.out.row_ge (Nat.le_refl _)
                      have HB9 := Lib.hid (hb9.set_ 0 (.slice (some ⟨g9, 0, none⟩) (rl + 1) cap9))
                      have HO9 := Lib.hid (hown9.far (p := ⟨wf.heap.size + 1, 0, none⟩) (hown9.ne_blk hb9 (by decide)) (.slice (some ⟨g9, 0, none⟩) (rl + 1) cap9))
                      have HG9 := Lib.hid (hg9.setCell (p := ⟨wf.heap.size + 1, 0, none⟩) (by show wd.heap.size ≤ wf.heap.size + 1; omega) (.slice (some ⟨g9, 0, none⟩) (rl + 1) cap9))
                      have b9 := hb9.cell 0
                      have f9 := hb9.frozen 0
                      have l9 := hb9.lt
                      refine hK.out _ _ (.inl (by rfl)) ?_
                      clear hK hown9 hgb9 hb9 hg9
                      try simp only [Act.put, List.setIfInBounds_toArray, List.set_cons_zero, List.set_cons_succ]
                      refine wpAnyR_n1 (i := 14) rfl (by kernel_rfl) ?_
                      intro K' hK
                      rw [if_pos (by rfl)]
                      simp only [List.getElem_toArray, List.getElem_cons_succ, List.getElem_cons_zero]
                      go_wp2_with fail
                      refine hK.out _ _ (.inl (by rfl)) ?_
                      clear hK b9 f9 l9
                      refine wpAnyR_done (by kernel_rfl) ?_ _
                      go_wp2_with fail
                      go_roundg (S.length - (q + 1))
                      case measure => rw [HGQ.out]; omega
                      case rel => exact ⟨q + 1, _, by omega, by omega, by go_num, HB9.out, by rw [HST5.out, ← List.append_assoc, ← List.cons_append, List.map_append]; exact HO9.out, HG9.out⟩
                    · obtain rfl : q = S.length := by omega
                      rw [en_all] at HOE
                      have hlz := entG_len E S v hSb
                      have hsz := entG_size E S v
                      obtain ⟨l, hl⟩ : ∃ l, entG E S v = l := ⟨_, rfl⟩
                      rw [hl] at HOE hlz hsz
                      have HLG := Lib.hid hl
                      obtain ⟨hl0, hl97⟩ := hlz
                      have HSZ9 := Lib.hid hsz
                      obtain ⟨ge, ce, rfl, hge1, hge2⟩ := HOE.out.some_ (fun e => by have h9 := rowsI_len l; rw [e] at h9; simp at h9; omega)
                      rw [rowsI_len] at HBE
                      have HOE2 := HOE
                      rw [rowsI_len] at HOE2
                      obtain ⟨wg, hwg⟩ : ∃ wg : World, wg = wr := ⟨_, rfl⟩
                      subst hwg
                      have t25 := HBE.out.cell 0
                      have t25l := HBE.out.lt
                      have HLE := Lib.hid HOE2.out.listA
                      have HBXg := Lib.hid (HBXd.out.grew HGR.out)
                      have hgw : W.heap.size < wg.heap.size := HBXg.out.lt
                      clear hqt hq HGQ hl hsz
                      go_wp2_with fail
                      clear t25 t25l
                      go_loopg [30, 31, 189] l.length (fun gk a30 a31 i' wr => ∃ (q : Nat) (vs : List Value), q ≤ l.length ∧ gk = l.length - q ∧ i' = .int .i64 q ∧ a31 = .string (catB (rawsB (l.take q))) ∧ OwnL wr wg.heap.size 104 1 a30 (vs.map fun v => [v]) ∧ PutsAt wr wg.heap.size s (slU l q) vs ∧ Grew wg wr)
                      case atStart => exact ⟨0, [], by omega, by omega, rfl, rfl, OwnL.nil .., PutsAt.nil .., Grew.refl _⟩
                      case round =>
                        obtain ⟨q, vs, hq, hgq, rfl, rfl, how, hpu, hgg⟩ := hrel
                        have HGQ := Lib.hid hgq
                        have HOW6 := Lib.hid how
                        have HPU := Lib.hid hpu
                        have HG6g := Lib.hid hgg
                        clear hgq how hpu hgg
                        by_cases hqt : q < l.length
                        · have hqi : (q : Int) < (l.length : Int) := by omega
                          obtain ⟨ol, c0, c1⟩ := ent_own (listAt_on HLE.out HG6g.out) hqt
                          have HST6 := Lib.hid (slU_step l q hqt)
                          have HRT6 := Lib.hid (rawsB_step l q hqt)
                          obtain ⟨⟨a, raw⟩, ha⟩ : ∃ e, l[q] = e := ⟨_, rfl⟩
                          have hrs : raw.size = 140 := by have := HSZ9.out _ (List.getElem_mem hqt); rw [ha] at this; exact this
                          have hcs : (catB (rawsB (l.take q))).size ≤ 14000 := by
                            rw [catB_size _ (fun r hr => by
                              unfold rawsB at hr
                              obtain ⟨e, he, rfl⟩ := List.mem_map.1 hr
                              exact HSZ9.out _ (List.mem_of_mem_take he))]
                            unfold rawsB
                            rw [List.length_map, List.length_take]
                            omega
                          rw [ha] at HST6 HRT6 c0 c1
                          simp only at HST6 HRT6 c0 c1
                          have hxb : Blk (wr.alloc (.cells #[.int .i64 (a : Int), .string raw] 101)) wr.heap.size 101 #[.int .i64 (a : Int), .string raw] := Blk.new wr _ _ rfl
                          have hgx : Grew wr (wr.alloc (.cells #[.int .i64 (a : Int), .string raw] 101)) := (Grew.refl wr).alloc _
                          have hbx := HBXg.out.grew HG6g.out
                          have hbxl : W.heap.size < wr.heap.size := hbx.lt
                          have HSF : Hid (∀ w', Grew (wr.alloc (.cells #[.int .i64 (a : Int), .string raw] 101)) w' → (fun w' : World => w'.cell? ⟨W.heap.size, 0, none⟩ = some (ptrV s) ∧ W.heap.size < w'.heap.size ∧ w'.cell? ⟨wr.heap.size, 1, none⟩ = some (.string raw) ∧ wr.heap.size < w'.heap.size) w') := Lib.hid (fun w' hg => ⟨(hbx.grew (hgx.trans hg)).cell 0, (hbx.grew (hgx.trans hg)).lt, (hxb.grew hg).cell 1, (hxb.grew hg).lt⟩)
                          have HGX := Lib.hid hgx
                          have hwk : IntKind.i64.wrap (34 + (q : Int)) = 34 + (q : Int) := IntWalk.i64_in _ (by omega)
                          have hvl := HPU.out.1
                          rw [slU_len] at hvl
                          obtain ⟨wx, hwx⟩ : ∃ wx : World, wx = wr.alloc (.cells #[.int .i64 (a : Int), .string raw] 101) := ⟨_, rfl⟩
                          have HXB6 := Lib.hid hxb
                          have HBX6 := Lib.hid hbx
                          rw [← hwx] at HSF HGX HXB6
                          have hrx : wr.heap.size < wx.heap.size := by rw [hwx]; simp
                          clear hxb hgx ha hbx
                          go_wp2_with fail
                          rw [← hwx]
                          clear hwx c0 c1
                          refine wp_region_R [] (fun w' : World => w'.cell? ⟨W.heap.size, 0, none⟩ = some (ptrV s) ∧ W.heap.size < w'.heap.size ∧ w'.cell? ⟨wr.heap.size, 1, none⟩ = some (.string raw) ∧ wr.heap.size < w'.heap.size) (by kernel_rfl) ?_
                          have hS := HSF.out wx.drew (Grew.refl wx).drew
                          refine wpAnyR_takeQ (i := 0) (v := ?_) (some 194) rfl rfl (by kernel_rfl) (by kernel_rfl) (by kernel_rfl) (by kernel_rfl) (fun _ _ _ h => h) (Or.inl ⟨by rfl, ?_⟩) ?_
                          rotate_left
                          focus (intro wS hSw; (try dsimp only at hSw); go_simp; (try with_reducible rfl); (try (first | (rw [if_pos (by omega)]; (try go_simp); (try with_reducible rfl)) | (rw [if_neg (by omega)]; (try go_simp); (try with_reducible rfl)))))
                          try simp only [Act.put, List.setIfInBounds_toArray, List.set_cons_zero, List.set_cons_succ]
                          refine wpAnyR_take (i := 1) (v := ?_) [6, 7, 8, 13, 14] (some 195) rfl rfl (by kernel_rfl) (by kernel_rfl) (by kernel_rfl) (by kernel_rfl) (by kernel_rfl) (by kernel_rfl) (by kernel_rfl) (fun _ _ _ h => h) (Or.inl ⟨by rfl, ?_⟩) hS ?_
                          rotate_left
                          focus (intro wS hSw; (try dsimp only at hSw); go_simp; (try with_reducible rfl); (try (first | (rw [if_pos (by omega)]; (try go_simp); (try with_reducible rfl)) | (rw [if_neg (by omega)]; (try go_simp); (try with_reducible rfl)))))
                          try simp only [Act.put, List.setIfInBounds_toArray, List.set_cons_zero, List.set_cons_succ]
                          refine wpAnyR_takeQ (i := 2) (v := ?_) (some 196) rfl rfl (by kernel_rfl) (by kernel_rfl) (by kernel_rfl) (by kernel_rfl) (fun _ _ _ h => h) (Or.inl ⟨by rfl, ?_⟩) ?_
                          rotate_left
                          focus (intro wS hSw; (try dsimp only at hSw); go_simp; (try with_reducible rfl); (try (first | (rw [if_pos (by omega)]; (try go_simp); (try with_reducible rfl)) | (rw [if_neg (by omega)]; (try go_simp); (try with_reducible rfl)))))
                          try simp only [Act.put, List.setIfInBounds_toArray, List.set_cons_zero, List.set_cons_succ]
                          refine wpAnyR_takeQ (i := 3) (v := ?_) (some 197) rfl rfl (by kernel_rfl) (by kernel_rfl) (by kernel_rfl) (by kernel_rfl) (fun _ _ _ h => h) (Or.inl ⟨by rfl, ?_⟩) ?_
                          rotate_left
                          focus (intro wS hSw; (try dsimp only at hSw); go_simp; (try with_reducible rfl); (try (first | (rw [if_pos (by omega)]; (try go_simp); (try with_reducible rfl)) | (rw [if_neg (by omega)]; (try go_simp); (try with_reducible rfl)))))
                          try simp only [Act.put, List.setIfInBounds_toArray, List.set_cons_zero, List.set_cons_succ]
                          refine wpAnyR_takeQ (i := 4) (v := ?_) (some 198) rfl rfl (by kernel_rfl) (by kernel_rfl) (by kernel_rfl) (by kernel_rfl) (fun _ _ _ h => h) (Or.inl ⟨by rfl, ?_⟩) ?_
                          rotate_left
                          focus (intro wS hSw; (try dsimp only at hSw); go_simp; (try with_reducible rfl); (try (first | (rw [if_pos (by omega)]; (try go_simp); (try with_reducible rfl)) | (rw [if_neg (by omega)]; (try go_simp); (try with_reducible rfl)))))
                          try simp only [Act.put, List.setIfInBounds_toArray, List.set_cons_zero, List.set_cons_succ]
                          refine wpAnyR_take (i := 5) (v := ?_) [6, 7, 8, 13, 14] (some 199) rfl rfl (by kernel_rfl) (by kernel_rfl) (by kernel_rfl) (by kernel_rfl) (by kernel_rfl) (by kernel_rfl) (by kernel_rfl) (fun _ _ _ h => h) (Or.inl ⟨by rfl, ?_⟩) hS ?_
                          rotate_left
                          focus (intro wS hSw; (try dsimp only at hSw); go_simp; (try with_reducible rfl); (try (first | (rw [if_pos (by omega)]; (try go_simp); (try with_reducible rfl)) | (rw [if_neg (by omega)]; (try go_simp); (try with_reducible rfl)))))
                          try simp only [Act.put, List.setIfInBounds_toArray, List.set_cons_zero, List.set_cons_succ]
                          refine wpAnyR_takeQ (i := 9) (v := ?_) (some 203) rfl rfl (by kernel_rfl) (by kernel_rfl) (by kernel_rfl) (by kernel_rfl) (fun _ _ _ h => h) (Or.inl ⟨by rfl, ?_⟩) ?_
                          rotate_left
                          focus (intro wS hSw; (try dsimp only at hSw); go_simp; (try with_reducible rfl); (try (first | (rw [if_pos (by omega)]; (try go_simp); (try with_reducible rfl)) | (rw [if_neg (by omega)]; (try go_simp); (try with_reducible rfl)))))
                          try simp only [Act.put, List.setIfInBounds_toArray, List.set_cons_zero, List.set_cons_succ]
                          refine wpAnyR_takeQ (i := 10) (v := ?_) (some 204) rfl rfl (by kernel_rfl) (by kernel_rfl) (by kernel_rfl) (by kernel_rfl) (fun _ _ _ h => h) (Or.inl ⟨by rfl, ?_⟩) ?_
                          rotate_left
                          focus (intro wS hSw; (try dsimp only at hSw); go_simp; (try with_reducible rfl); (try (first | (rw [if_pos (by omega)]; (try go_simp); (try with_reducible rfl)) | (rw [if_neg (by omega)]; (try go_simp); (try with_reducible rfl)))))
                          try simp only [Act.put, List.setIfInBounds_toArray, List.set_cons_zero, List.set_cons_succ]
                          refine wpAnyR_take (i := 11) (v := ?_) [12, 14] (some 205) rfl rfl (by kernel_rfl) (by kernel_rfl) (by kernel_rfl) (by kernel_rfl) (by kernel_rfl) (by kernel_rfl) (by kernel_rfl) (fun _ _ _ h => h) (Or.inl ⟨by rfl, ?_⟩) hS ?_
                          rotate_left
                          focus (intro wS hSw; (try dsimp only at hSw); go_simp; (try with_reducible rfl); (try (first | (rw [if_pos (by omega)]; (try go_simp); (try with_reducible rfl)) | (rw [if_neg (by omega)]; (try go_simp); (try with_reducible rfl)))))
                          try simp only [Act.put, List.setIfInBounds_toArray, List.set_cons_zero, List.set_cons_succ]
                          refine wpAnyR_takeQ (i := 12) (v := ?_) (some 206) rfl rfl (by kernel_rfl) (by kernel_rfl) (by kernel_rfl) (by kernel_rfl) (fun _ _ _ h => h) (Or.inl ⟨by rfl, ?_⟩) ?_
                          rotate_left
                          focus (intro wS hSw; (try dsimp only at hSw); go_simp; (try with_reducible rfl); (try (first | (rw [if_pos (by omega)]; (try go_simp); (try with_reducible rfl)) | (rw [if_neg (by omega)]; (try go_simp); (try with_reducible rfl)))))
                          try simp only [Act.put, List.setIfInBounds_toArray, List.set_cons_zero, List.set_cons_succ]
                          refine wpAnyR_n1 (i := 6) rfl (by kernel_rfl) ?_
                          intro K' hK
                          rw [if_pos (by rfl)]
                          simp only [List.getElem_toArray, List.getElem_cons_succ, List.getElem_cons_zero]
                          go_wp2_with fail
                          refine (put_any _ _ _ _).mono ?_
                          rintro e wh ⟨pv, rfl, hput, gh⟩
                          obtain ⟨caps, rfl⟩ := hput.form
                          have HGXH := Lib.hid ((Grew.refl wx).drew.trans gh)
                          have HGH := Lib.hid (HGX.out.trans HGXH.out)
                          have hwh : wg.heap.size ≤ wh.heap.size := (HG6g.out.trans HGH.out).size
                          have hput1 : PutAt wh wg.heap.size s (34 + (q : Int)) raw (.func (.func 81) #[] caps) := hput.low (by show wg.heap.size ≤ wx.drew.heap.size; have h8 := HG6g.out.size; have : wx.drew.heap.size = wx.heap.size := rfl; omega)
                          have HPU1 := Lib.hid ((HPU.out.grew HGH.out).snoc (e := (34 + (q : Int), raw)) hput1)
                          clear gh hput hput1
                          go_wp2_with fail
                          refine hK.out _ _ (.inr (fun _ => HSF.out wh HGXH.out)) ?_
                          clear hK hS
                          refine wpAnyR_n1 (i := 7) rfl (by kernel_rfl) ?_
                          intro K' hK
                          rw [if_pos (by rfl)]
                          simp only [List.getElem_toArray, List.getElem_cons_succ, List.getElem_cons_zero]
                          go_wp2_with fail
                          refine hK.out _ _ (.inr (fun _ => HSF.out _ (HGXH.out.alloc _))) ?_
                          clear hK
                          refine wpAnyR_n1 (i := 8) rfl (by kernel_rfl) ?_
                          intro K' hK
                          rw [if_pos (by rfl)]
                          simp only [List.getElem_toArray, List.getElem_cons_succ, List.getElem_cons_zero]
                          refine wp_push (.tmp 194) (.tmp 201) 103 rfl wg.heap.size 104 1 8 .nilFunc Try.underlying103 info_fun rfl (by decide) _ u30 (vs.map fun v => [v]) [.func (.func 81) #[] caps] rfl rfl ((HOW6.out.grew HGH.out).alloc _) wh.heap.size rfl (Blk.new wh _ _ rfl) rfl (by rw [List.length_map]; omega) (by rw [List.length_map]; omega) (by simp; omega) q (by rw [List.length_map]; exact hvl) ?_
                          intro g9 cap9 w9 hown9 hgb9 _ _
                          have hg9 := ((HG6g.out.trans HGH.out).alloc (.cells #[.func (.func 81) #[] caps] 104)).own hgb9 HOW6.out.row_ge (Nat.le_refl _)
                          have hp9 := (HPU1.out.grew ((Grew.refl wh).alloc (.cells #[.func (.func 81) #[] caps] 104))).own ((HOW6.out.grew HGH.out).alloc (.cells #[.func (.func 81) #[] caps] 104)) hgb9
                          have HO9 := Lib.hid hown9
                          have HG9 := Lib.hid hg9
                          have HP9 := Lib.hid hp9
                          have hbb9 := ((HBX6.out.grew (HGX.out.trans HGXH.out)).alloc (.cells #[.func (.func 81) #[] caps] 104)).own hgb9 (HOW6.out.ne_blk HBX6.out (by decide))
                          have hxx9 := ((HXB6.out.grew HGXH.out).alloc (.cells #[.func (.func 81) #[] caps] 104)).own hgb9 ((HOW6.out.grew HGX.out).ne_blk HXB6.out (by decide))
                          refine hK.out _ _ (.inr (fun _ => ⟨hbb9.cell 0, hbb9.lt, hxx9.cell 1, hxx9.lt⟩)) ?_
                          clear hK hown9 hgb9 hg9 hp9 hbb9 hxx9
                          refine wpAnyR_takeQ (i := 13) (v := ?_) (some 30) rfl rfl (by kernel_rfl) (by kernel_rfl) (by kernel_rfl) (by kernel_rfl) (fun _ _ _ h => h) (Or.inl ⟨by rfl, ?_⟩) ?_
                          rotate_left
                          focus (intro wS hSw; (try dsimp only at hSw); go_simp; (try with_reducible rfl); (try (first | (rw [if_pos (by omega)]; (try go_simp); (try with_reducible rfl)) | (rw [if_neg (by omega)]; (try go_simp); (try with_reducible rfl)))))
                          try simp only [Act.put, List.setIfInBounds_toArray, List.set_cons_zero, List.set_cons_succ]
                          refine wpAnyR_takeQ (i := 14) (v := ?_) (some 31) rfl rfl (by kernel_rfl) (by kernel_rfl) (by kernel_rfl) (by kernel_rfl) (fun _ _ _ h => h) (Or.inl ⟨by rfl, ?_⟩) ?_
                          rotate_left
                          focus (intro wS hSw; (try dsimp only at hSw); go_simp; (try with_reducible rfl); (try (first | (rw [if_pos (by omega)]; (try go_simp); (try with_reducible rfl)) | (rw [if_neg (by omega)]; (try go_simp); (try with_reducible rfl)))))
                          try simp only [Act.put, List.setIfInBounds_toArray, List.set_cons_zero, List.set_cons_succ]
                          refine wpAnyR_done (by kernel_rfl) ?_ _
                          go_wp2_with fail
                          go_roundg (l.length - (q + 1))
                          case measure => rw [HGQ.out]; omega
                          case rel => exact ⟨q + 1, vs ++ [.func (.func 81) #[] caps], by omega, by omega, by go_num, by rw [HRT6.out], by rw [List.map_append]; exact HO9.out, by rw [HST6.out]; exact HP9.out, HG9.out⟩
                        · obtain rfl : q = l.length := by omega
                          rw [List.take_of_length_le (Nat.le_refl _)]
                          obtain ⟨wk, hwk⟩ : ∃ wk : World, wk = wr := ⟨_, rfl⟩
                          subst hwk
                          have HB25 := Lib.hid (HBE.out.grew HG6g.out)
                          have HBXk := Lib.hid (HBXg.out.grew HG6g.out)
                          have hcs : (catB (rawsB l)).size ≤ 14000 := by
                            rw [catB_size _ (fun r hr => by
                              unfold rawsB at hr
                              obtain ⟨e, he, rfl⟩ := List.mem_map.1 hr
                              exact HSZ9.out _ he)]
                            unfold rawsB
                            rw [List.length_map]
                            omega
                          have hcv := cnt_conv l.length hl97
                          have hb1 : (bytesS v).size = 4 := bytesS_size v
                          have hb2 : (bytesS (nv l.length)).size = 4 := bytesS_size _
                          have hb3 : (bytesS (sumS (catB (rawsB l)))).size = 4 := bytesS_size _
                          have hb4 : (bytesS v ++ bytesS (nv l.length)).size = 8 := by rw [ByteArray.size_append, hb1, hb2]
                          have HHD : Hid (bytesS v ++ bytesS (nv l.length) ++ bytesS (sumS (catB (rawsB l))) = headDat l v) := Lib.hid (by unfold headDat; rw [ByteArray.append_assoc])
                          have HSF : Hid (∀ w', Grew wk w' → (fun w' : World => w'.cell? ⟨wf.heap.size + 1, 0, none⟩ = some (.slice (some ⟨ge, 0, none⟩) l.length ce) ∧ wf.heap.size + 1 < w'.heap.size) w') := Lib.hid (fun w' hg => ⟨(HB25.out.grew hg).cell 0, (HB25.out.grew hg).lt⟩)
                          clear hqt hq HGQ
                          go_wp2_with fail
                          refine wp_region_R [] (fun w' : World => w'.cell? ⟨wf.heap.size + 1, 0, none⟩ = some (.slice (some ⟨ge, 0, none⟩) l.length ce) ∧ wf.heap.size + 1 < w'.heap.size) (by kernel_rfl) ?_
                          have hS := HSF.out wk.drew (Grew.refl wk).drew
                          refine wpAnyR_takeQ (i := 0) (v := ?_) (some 208) rfl rfl (by kernel_rfl) (by kernel_rfl) (by kernel_rfl) (by kernel_rfl) (fun _ _ _ h => h) (Or.inl ⟨by rfl, ?_⟩) ?_
                          rotate_left
                          focus (intro wS hSw; (try dsimp only at hSw); go_simp; (try with_reducible rfl); (try (first | (rw [if_pos (by omega)]; (try go_simp); (try with_reducible rfl)) | (rw [if_neg (by omega)]; (try go_simp); (try with_reducible rfl)))))
                          try simp only [Act.put, List.setIfInBounds_toArray, List.set_cons_zero, List.set_cons_succ]
                          refine wpAnyR_take (i := 2) (v := ?_) [3, 4, 5, 6, 8, 9, 10, 11] (some 210) rfl rfl (by kernel_rfl) (by kernel_rfl) (by kernel_rfl) (by kernel_rfl) (by kernel_rfl) (by kernel_rfl) (by kernel_rfl) (fun _ _ _ h => h) (Or.inl ⟨by rfl, ?_⟩) hS ?_
                          rotate_left
                          focus (intro wS hSw; (try dsimp only at hSw); go_simp; (try with_reducible rfl); (try (first | (rw [if_pos (by omega)]; (try go_simp); (try with_reducible rfl)) | (rw [if_neg (by omega)]; (try go_simp); (try with_reducible rfl)))))
                          try simp only [Act.put, List.setIfInBounds_toArray, List.set_cons_zero, List.set_cons_succ]
                          refine wpAnyR_take (i := 3) (v := ?_) [4, 5, 6, 8, 9, 10, 11] (some 211) rfl rfl (by kernel_rfl) (by kernel_rfl) (by kernel_rfl) (by kernel_rfl) (by kernel_rfl) (by kernel_rfl) (by kernel_rfl) (fun _ _ _ h => h) (Or.inl ⟨by rfl, ?_⟩) hS ?_
                          rotate_left
                          focus (intro wS hSw; (try dsimp only at hSw); go_simp; (try with_reducible rfl); (try (first | (rw [if_pos (by omega)]; (try go_simp); (try with_reducible rfl)) | (rw [if_neg (by omega)]; (try go_simp); (try with_reducible rfl)))))
                          try simp only [Act.put, List.setIfInBounds_toArray, List.set_cons_zero, List.set_cons_succ]
                          refine wpAnyR_take (i := 4) (v := ?_) [5, 6, 8, 9, 10, 11] (some 212) rfl rfl (by kernel_rfl) (by kernel_rfl) (by kernel_rfl) (by kernel_rfl) (by kernel_rfl) (by kernel_rfl) (by kernel_rfl) (fun _ _ _ h => h) (Or.inl ⟨by rfl, ?_⟩) hS ?_
                          rotate_left
                          focus (intro wS hSw; (try dsimp only at hSw); go_simp; (try with_reducible rfl); (try (first | (rw [if_pos (by omega)]; (try go_simp); (try with_reducible rfl)) | (rw [if_neg (by omega)]; (try go_simp); (try with_reducible rfl)))))
                          try simp only [Act.put, List.setIfInBounds_toArray, List.set_cons_zero, List.set_cons_succ]
                          refine wpAnyR_takeQ (i := 7) (v := ?_) (some 215) rfl rfl (by kernel_rfl) (by kernel_rfl) (by kernel_rfl) (by kernel_rfl) (fun _ _ _ h => h) (Or.inl ⟨by rfl, ?_⟩) ?_
                          rotate_left
                          focus (intro wS hSw; (try dsimp only at hSw); go_simp; (try with_reducible rfl); (try (first | (rw [if_pos (by omega)]; (try go_simp); (try with_reducible rfl)) | (rw [if_neg (by omega)]; (try go_simp); (try with_reducible rfl)))))
                          try simp only [Act.put, List.setIfInBounds_toArray, List.set_cons_zero, List.set_cons_succ]
                          refine wpAnyR_n1 (i := 1) rfl (by kernel_rfl) ?_
                          intro K' hK
                          rw [if_pos (by rfl)]
                          simp only [List.getElem_toArray, List.getElem_cons_succ, List.getElem_cons_zero]
                          go_wp2_with fail
                          refine (bytes_any v _).mono ?_
                          rintro e wk1 ⟨rfl, gk1⟩
                          have HK1 := Lib.hid ((Grew.refl wk).drew.trans gk1)
                          clear gk1
                          go_wp2_with fail
                          refine hK.out _ _ (.inr (fun _ => HSF.out wk1 HK1.out)) ?_
                          clear hK hS
                          refine wpAnyR_n1 (i := 5) rfl (by kernel_rfl) ?_
                          intro K' hK
                          rw [if_pos (by rfl)]
                          simp only [List.getElem_toArray, List.getElem_cons_succ, List.getElem_cons_zero]
                          go_wp2_with fail
                          refine (bytes_any (nv l.length) _).mono ?_
                          rintro e wk2 ⟨rfl, gk2⟩
                          have HK2 := Lib.hid (HK1.out.trans gk2)
                          clear gk2
                          go_wp2_with fail
                          refine hK.out _ _ (.inr (fun _ => HSF.out wk2 HK2.out)) ?_
                          clear hK
                          have hS := HSF.out wk2 HK2.out
                          refine wpAnyR_takeQ (i := 6) (v := ?_) (some 214) rfl rfl (by kernel_rfl) (by kernel_rfl) (by kernel_rfl) (by kernel_rfl) (fun _ _ _ h => h) (Or.inl ⟨by rfl, ?_⟩) ?_
                          rotate_left
                          focus (intro wS hSw; (try dsimp only at hSw); go_simp; (try with_reducible rfl); (try (first | (rw [if_pos (by omega)]; (try go_simp); (try with_reducible rfl)) | (rw [if_neg (by omega)]; (try go_simp); (try with_reducible rfl)))))
                          try simp only [Act.put, List.setIfInBounds_toArray, List.set_cons_zero, List.set_cons_succ]
                          refine wpAnyR_n1 (i := 8) rfl (by kernel_rfl) ?_
                          intro K' hK
                          rw [if_pos (by rfl)]
                          simp only [List.getElem_toArray, List.getElem_cons_succ, List.getElem_cons_zero]
                          go_wp2_with fail
                          refine (sum_any (catB (rawsB l)) (by omega) _).mono ?_
                          rintro e wk3 ⟨rfl, gk3⟩
                          have HK3 := Lib.hid (HK2.out.trans gk3)
                          clear gk3
                          go_wp2_with fail
                          refine hK.out _ _ (.inr (fun _ => HSF.out wk3 HK3.out)) ?_
                          clear hK hS
                          refine wpAnyR_n1 (i := 9) rfl (by kernel_rfl) ?_
                          intro K' hK
                          rw [if_pos (by rfl)]
                          simp only [List.getElem_toArray, List.getElem_cons_succ, List.getElem_cons_zero]
                          go_wp2_with fail
                          refine (bytes_any (sumS (catB (rawsB l))) _).mono ?_
                          rintro e wk4 ⟨rfl, gk4⟩
                          have HK4 := Lib.hid (HK3.out.trans gk4)
                          clear gk4
                          go_wp2_with fail
                          refine hK.out _ _ (.inr (fun _ => HSF.out wk4 HK4.out)) ?_
                          clear hK
                          have hS := HSF.out wk4 HK4.out
                          refine wpAnyR_takeQ (i := 10) (v := ?_) (some 218) rfl rfl (by kernel_rfl) (by kernel_rfl) (by kernel_rfl) (by kernel_rfl) (fun _ _ _ h => h) (Or.inl ⟨by rfl, ?_⟩) ?_
                          rotate_left
                          focus (intro wS hSw; (try dsimp only at hSw); go_simp; (try with_reducible rfl); (try (first | (rw [if_pos (by omega)]; (try go_simp); (try with_reducible rfl)) | (rw [if_neg (by omega)]; (try go_simp); (try with_reducible rfl)))))
                          try simp only [Act.put, List.setIfInBounds_toArray, List.set_cons_zero, List.set_cons_succ]
                          refine wpAnyR_takeQ (i := 11) (v := ?_) (some 34) rfl rfl (by kernel_rfl) (by kernel_rfl) (by kernel_rfl) (by kernel_rfl) (fun _ _ _ h => h) (Or.inl ⟨by rfl, ?_⟩) ?_
                          rotate_left
                          focus (intro wS hSw; (try dsimp only at hSw); go_simp; (try with_reducible rfl); (try (first | (rw [if_pos (by omega)]; (try go_simp); (try with_reducible rfl)) | (rw [if_neg (by omega)]; (try go_simp); (try with_reducible rfl)))))
                          try simp only [Act.put, List.setIfInBounds_toArray, List.set_cons_zero, List.set_cons_succ]
                          refine wpAnyR_done (by kernel_rfl) ?_ _
                          rw [HHD.out]
                          clear hS hcv hb1 hb2 hb3 hb4 hcs
                          have HSF8 : Hid (∀ w', Grew wk4 w' → (fun w' : World => w'.cell? ⟨W.heap.size, 0, none⟩ = some (ptrV s) ∧ W.heap.size < w'.heap.size) w') := Lib.hid (fun w' hg => ⟨((HBXk.out.grew HK4.out).grew hg).cell 0, ((HBXk.out.grew HK4.out).grew hg).lt⟩)
                          have HPH := Lib.hid (fun w => pack_any (headDat l v) v 33 w (by rw [headDat_size]; omega) (okI_small 33 (by omega)))
                          go_wp2_with fail
                          refine wp_region_R [] (fun w' : World => w'.cell? ⟨W.heap.size, 0, none⟩ = some (ptrV s) ∧ W.heap.size < w'.heap.size) (by kernel_rfl) ?_
                          have hS := HSF8.out wk4.drew (Grew.refl wk4).drew
                          refine wpAnyR_takeQ (i := 0) (v := ?_) (some 219) rfl rfl (by kernel_rfl) (by kernel_rfl) (by kernel_rfl) (by kernel_rfl) (fun _ _ _ h => h) (Or.inl ⟨by rfl, ?_⟩) ?_
                          rotate_left
                          focus (intro wS hSw; (try dsimp only at hSw); go_simp; (try with_reducible rfl); (try (first | (rw [if_pos (by omega)]; (try go_simp); (try with_reducible rfl)) | (rw [if_neg (by omega)]; (try go_simp); (try with_reducible rfl)))))
                          try simp only [Act.put, List.setIfInBounds_toArray, List.set_cons_zero, List.set_cons_succ]
                          refine wpAnyR_take (i := 1) (v := ?_) [2, 11, 12, 13] (some 220) rfl rfl (by kernel_rfl) (by kernel_rfl) (by kernel_rfl) (by kernel_rfl) (by kernel_rfl) (by kernel_rfl) (by kernel_rfl) (fun _ _ _ h => h) (Or.inl ⟨by rfl, ?_⟩) hS ?_
                          rotate_left
                          focus (intro wS hSw; (try dsimp only at hSw); go_simp; (try with_reducible rfl); (try (first | (rw [if_pos (by omega)]; (try go_simp); (try with_reducible rfl)) | (rw [if_neg (by omega)]; (try go_simp); (try with_reducible rfl)))))
                          try simp only [Act.put, List.setIfInBounds_toArray, List.set_cons_zero, List.set_cons_succ]
                          refine wpAnyR_takeQ (i := 2) (v := ?_) (some 221) rfl rfl (by kernel_rfl) (by kernel_rfl) (by kernel_rfl) (by kernel_rfl) (fun _ _ _ h => h) (Or.inl ⟨by rfl, ?_⟩) ?_
                          rotate_left
                          focus (intro wS hSw; (try dsimp only at hSw); go_simp; (try with_reducible rfl); (try (first | (rw [if_pos (by omega)]; (try go_simp); (try with_reducible rfl)) | (rw [if_neg (by omega)]; (try go_simp); (try with_reducible rfl)))))
                          try simp only [Act.put, List.setIfInBounds_toArray, List.set_cons_zero, List.set_cons_succ]
                          refine wpAnyR_take (i := 3) (v := ?_) [7, 11, 12, 13] (some 222) rfl rfl (by kernel_rfl) (by kernel_rfl) (by kernel_rfl) (by kernel_rfl) (by kernel_rfl) (by kernel_rfl) (by kernel_rfl) (fun _ _ _ h => h) (Or.inl ⟨by rfl, ?_⟩) hS ?_
                          rotate_left
                          focus (intro wS hSw; (try dsimp only at hSw); go_simp; (try with_reducible rfl); (try (first | (rw [if_pos (by omega)]; (try go_simp); (try with_reducible rfl)) | (rw [if_neg (by omega)]; (try go_simp); (try with_reducible rfl)))))
                          try simp only [Act.put, List.setIfInBounds_toArray, List.set_cons_zero, List.set_cons_succ]
                          refine wpAnyR_takeQ (i := 4) (v := ?_) (some 223) rfl rfl (by kernel_rfl) (by kernel_rfl) (by kernel_rfl) (by kernel_rfl) (fun _ _ _ h => h) (Or.inl ⟨by rfl, ?_⟩) ?_
                          rotate_left
                          focus (intro wS hSw; (try dsimp only at hSw); go_simp; (try with_reducible rfl); (try (first | (rw [if_pos (by omega)]; (try go_simp); (try with_reducible rfl)) | (rw [if_neg (by omega)]; (try go_simp); (try with_reducible rfl)))))
                          try simp only [Act.put, List.setIfInBounds_toArray, List.set_cons_zero, List.set_cons_succ]
                          refine wpAnyR_takeQ (i := 5) (v := ?_) (some 224) rfl rfl (by kernel_rfl) (by kernel_rfl) (by kernel_rfl) (by kernel_rfl) (fun _ _ _ h => h) (Or.inl ⟨by rfl, ?_⟩) ?_
                          rotate_left
                          focus (intro wS hSw; (try dsimp only at hSw); go_simp; (try with_reducible rfl); (try (first | (rw [if_pos (by omega)]; (try go_simp); (try with_reducible rfl)) | (rw [if_neg (by omega)]; (try go_simp); (try with_reducible rfl)))))
                          try simp only [Act.put, List.setIfInBounds_toArray, List.set_cons_zero, List.set_cons_succ]
                          refine wpAnyR_take (i := 8) (v := ?_) [9, 11, 12, 13] (some 227) rfl rfl (by kernel_rfl) (by kernel_rfl) (by kernel_rfl) (by kernel_rfl) (by kernel_rfl) (by kernel_rfl) (by kernel_rfl) (fun _ _ _ h => h) (Or.inl ⟨by rfl, ?_⟩) hS ?_
                          rotate_left
                          focus (intro wS hSw; (try dsimp only at hSw); go_simp; (try with_reducible rfl); (try (first | (rw [if_pos (by omega)]; (try go_simp); (try with_reducible rfl)) | (rw [if_neg (by omega)]; (try go_simp); (try with_reducible rfl)))))
                          try simp only [Act.put, List.setIfInBounds_toArray, List.set_cons_zero, List.set_cons_succ]
                          refine wpAnyR_takeQ (i := 9) (v := ?_) (some 228) rfl rfl (by kernel_rfl) (by kernel_rfl) (by kernel_rfl) (by kernel_rfl) (fun _ _ _ h => h) (Or.inl ⟨by rfl, ?_⟩) ?_
                          rotate_left
                          focus (intro wS hSw; (try dsimp only at hSw); go_simp; (try with_reducible rfl); (try (first | (rw [if_pos (by omega)]; (try go_simp); (try with_reducible rfl)) | (rw [if_neg (by omega)]; (try go_simp); (try with_reducible rfl)))))
                          try simp only [Act.put, List.setIfInBounds_toArray, List.set_cons_zero, List.set_cons_succ]
                          refine wpAnyR_takeQ (i := 10) (v := ?_) (some 229) rfl rfl (by kernel_rfl) (by kernel_rfl) (by kernel_rfl) (by kernel_rfl) (fun _ _ _ h => h) (Or.inl ⟨by rfl, ?_⟩) ?_
                          rotate_left
                          focus (intro wS hSw; (try dsimp only at hSw); go_simp; (try with_reducible rfl); (try (first | (rw [if_pos (by omega)]; (try go_simp); (try with_reducible rfl)) | (rw [if_neg (by omega)]; (try go_simp); (try with_reducible rfl)))))
                          try simp only [Act.put, List.setIfInBounds_toArray, List.set_cons_zero, List.set_cons_succ]
                          refine wpAnyR_n1 (i := 6) rfl (by kernel_rfl) ?_
                          intro K' hK
                          rw [if_pos (by rfl)]
                          simp only [List.getElem_toArray, List.getElem_cons_succ, List.getElem_cons_zero]
                          go_wp2_with fail
                          refine (HPH.out _).mono ?_
                          rintro e wk5 ⟨rfl, gk5⟩
                          have HK5 := Lib.hid ((Grew.refl wk4).drew.trans gk5)
                          clear gk5
                          go_wp2_with fail
                          refine hK.out _ _ (.inr (fun _ => HSF8.out wk5 HK5.out)) ?_
                          clear hK hS
                          refine wpAnyR_n1 (i := 7) rfl (by kernel_rfl) ?_
                          intro K' hK
                          rw [if_pos (by rfl)]
                          simp only [List.getElem_toArray, List.getElem_cons_succ, List.getElem_cons_zero]
                          go_wp2_with fail
                          refine (put_any _ _ _ _).mono ?_
                          rintro e wk6 ⟨pv, rfl, hput, gk6⟩
                          obtain ⟨caps, rfl⟩ := hput.form
                          have HK6 := Lib.hid (HK5.out.trans gk6)
                          have hwk5 : wg.heap.size ≤ wk5.heap.size := (HG6g.out.trans (HK4.out.trans HK5.out)).size
                          have HPT := Lib.hid (hput.low hwk5)
                          clear gk6 hput
                          go_wp2_with fail
                          refine hK.out _ _ (.inr (fun _ => HSF8.out wk6 HK6.out)) ?_
                          clear hK
                          refine wpAnyR_n1 (i := 11) rfl (by kernel_rfl) ?_
                          intro K' hK
                          rw [if_pos (by rfl)]
                          simp only [List.getElem_toArray, List.getElem_cons_succ, List.getElem_cons_zero]
                          go_wp2_with fail
                          refine hK.out _ _ (.inr (fun _ => HSF8.out _ (HK6.out.alloc _))) ?_
                          clear hK
                          have hvl := HPU.out.1
                          rw [slU_len] at hvl
                          have HOK6 := Lib.hid (HOW6.out.grew (HK4.out.trans HK6.out))
                          have hwk6 : wg.heap.size ≤ wk6.heap.size := (HG6g.out.trans (HK4.out.trans HK6.out)).size
                          refine wpAnyR_n1 (i := 12) rfl (by kernel_rfl) ?_
                          intro K' hK
                          rw [if_pos (by rfl)]
                          simp only [List.getElem_toArray, List.getElem_cons_succ, List.getElem_cons_zero]
                          refine wp_pushAll (.tmp 219) (.tmp 230) 103 rfl wg.heap.size 104 1 8 .nilFunc Try.underlying103 info_fun rfl (by decide) u30 (vs.map fun v => [v]) (([.func (.func 61) #[ptrV s] #[], .func (.func 81) #[] caps, .func (.func 61) #[ptrV s] #[], .func (.func 62) #[] #[.pointer (some ⟨W.heap.size, 0, none⟩), .pointer (some ⟨wf.heap.size + 1, 0, none⟩)]] : List Value).map fun v => [v]) rfl (HOK6.out.alloc _) (some ⟨wk6.heap.size, 0, none⟩) 4 4 rfl rfl (ones_len _) (ones_blk (Blk.new _ _ _ rfl) (by simp)) (ones_one (by rfl)) (by rw [List.length_map]; omega) (by rw [List.length_map]; omega) (by simp; omega) ?_
                          intro v9 w9 hown9 hgb9 _
                          have hbb9 := ((HBXk.out.grew (HK4.out.trans HK6.out)).alloc (.cells #[.func (.func 61) #[ptrV s] #[], .func (.func 81) #[] caps, .func (.func 61) #[ptrV s] #[], .func (.func 62) #[] #[.pointer (some ⟨W.heap.size, 0, none⟩), .pointer (some ⟨wf.heap.size + 1, 0, none⟩)]] 104)).own hgb9 (HOW6.out.ne_blk (HBXg.out.grew HG6g.out) (by decide))
                          have HBB9 := Lib.hid hbb9
                          have HO9 := Lib.hid hown9
                          have HB259 := Lib.hid (((HB25.out.grew (HK4.out.trans HK6.out)).alloc (.cells #[.func (.func 61) #[ptrV s] #[], .func (.func 81) #[] caps, .func (.func 61) #[ptrV s] #[], .func (.func 62) #[] #[.pointer (some ⟨W.heap.size, 0, none⟩), .pointer (some ⟨wf.heap.size + 1, 0, none⟩)]] 104)).own hgb9 (HOW6.out.ne_blk HB25.out (by decide)))
                          have HPU9 := Lib.hid (((HPU.out.grew (HK4.out.trans HK6.out)).grew ((Grew.refl wk6).alloc (.cells #[.func (.func 61) #[ptrV s] #[], .func (.func 81) #[] caps, .func (.func 61) #[ptrV s] #[], .func (.func 62) #[] #[.pointer (some ⟨W.heap.size, 0, none⟩), .pointer (some ⟨wf.heap.size + 1, 0, none⟩)]] 104))).own (HOK6.out.alloc (.cells #[.func (.func 61) #[ptrV s] #[], .func (.func 81) #[] caps, .func (.func 61) #[ptrV s] #[], .func (.func 62) #[] #[.pointer (some ⟨W.heap.size, 0, none⟩), .pointer (some ⟨wf.heap.size + 1, 0, none⟩)]] 104)) hgb9)
                          have HPT9 := Lib.hid ((HPT.out.grew ((Grew.refl wk6).alloc (.cells #[.func (.func 61) #[ptrV s] #[], .func (.func 81) #[] caps, .func (.func 61) #[ptrV s] #[], .func (.func 62) #[] #[.pointer (some ⟨W.heap.size, 0, none⟩), .pointer (some ⟨wf.heap.size + 1, 0, none⟩)]] 104))).own (HOK6.out.alloc (.cells #[.func (.func 61) #[ptrV s] #[], .func (.func 81) #[] caps, .func (.func 61) #[ptrV s] #[], .func (.func 62) #[] #[.pointer (some ⟨W.heap.size, 0, none⟩), .pointer (some ⟨wf.heap.size + 1, 0, none⟩)]] 104)) hgb9)
                          have HG9 : Hid (Grew wg w9) := Lib.hid (((HG6g.out.trans (HK4.out.trans HK6.out)).alloc (.cells #[.func (.func 61) #[ptrV s] #[], .func (.func 81) #[] caps, .func (.func 61) #[ptrV s] #[], .func (.func 62) #[] #[.pointer (some ⟨W.heap.size, 0, none⟩), .pointer (some ⟨wf.heap.size + 1, 0, none⟩)]] 104)).own hgb9 HOK6.out.row_ge (Nat.le_refl _))
                          refine hK.out _ _ (.inr (fun _ => ⟨hbb9.cell 0, hbb9.lt⟩)) ?_
                          clear hK hown9 hgb9 hbb9
                          have HG99 := Lib.hid (HGR.out.trans HG9.out)
                          have HT99 : Hid (Turned (fun q => q = m ∨ w1.heap.size ≤ q) w1 w9) := Lib.hid (HTd.out.trans (HG99.out.turned _))
                          have HS99 := Lib.hid (HSd.out.grew HG99.out)
                          have HD9 := Lib.hid (commit_do (HUP.out w9 HT99.out HS99.out) (by have := HPE.out; omega) (lo := w1.heap.size) (base := wg.heap.size) (fun k h1 h2 => .inr ⟨h1, h2⟩) (by have := HGR.out.size; omega) l v hl97 HSZ9.out HBB9.out (.inl (.inr rfl)) HB259.out (by omega) (listAt_on HLE.out HG9.out) ⟨by omega, by have := HG9.out.size; omega⟩ HPU9.out HPT9.out (by rw [List.map_append]; exact HO9.out))
                          obtain ⟨A2, n2, c2, rfl, hd9⟩ := HD9.out
                          have HDD := Lib.hid hd9
                          clear hd9 HD9
                          refine wpAnyR_takeQ (i := 13) (v := ?_) (some 30) rfl rfl (by kernel_rfl) (by kernel_rfl) (by kernel_rfl) (by kernel_rfl) (fun _ _ _ h => h) (Or.inl ⟨by rfl, ?_⟩) ?_
                          rotate_left
                          focus (intro wS hSw; (try dsimp only at hSw); go_simp; (try with_reducible rfl); (try (first | (rw [if_pos (by omega)]; (try go_simp); (try with_reducible rfl)) | (rw [if_neg (by omega)]; (try go_simp); (try with_reducible rfl)))))
                          try simp only [Act.put, List.setIfInBounds_toArray, List.set_cons_zero, List.set_cons_succ]
                          refine wpAnyR_done (by kernel_rfl) ?_ _
                          go_wp2_with fail
                          refine HDD.out.mono ?_
                          rintro e w10 ⟨rfl, hL10, hB10⟩
                          go_wp2_with fail
                          go_ret
                          rw [HLG.out]
                          exact ⟨rfl, commit_end HG0.out HD.out HS99.out HT99.out hL10 hB10 HOS.out.1 HOS.out.2⟩
end
end Go.Proofs.Ytbddelefglhaaaa
namespace Go.Proofs.Ytbddelefglhaaaa
set_option linter.unusedVariables false
set_option linter.unusedSimpArgs false
set_option linter.unusedSectionVars false
open Go.RowKit
attribute [local go_sem ↓] Go.wp_at_zero Go.wp_at_succ
theorem commit_any {w0 : World} {x s m : Nat} {sy ep : Int} {D : Dev} {out : Nat → Prop} {W : World} (h : Held w0 x s m sy ep D out W) (hlen : 132 ≤ D.st.length ∧ D.st.length ≤ 1155) (hp : D.pend.length ≤ 800000) (E : Dev) (fb : Bool) (hE : finD D sy ep = (E, fb, 0)) (n : Nat) (hn : D.st.length - 131 = n) (ws : List (Int × ByteArray)) (hok : ∀ e ∈ ws, okI e.1) (A : Option Addr) (c : Nat) (hat : ListAt W W.heap.size 2 A (ws.map entC)) (hA : AsideL w0 out A) (hck : checkP n ws = 0) (hne : ws ≠ []) (htop : (topI E).ok = true) (S : Wl) (hS : sortW n ws = S) (hmaps : ∀ k ∈ ksW S, okMap E k) (v : U32) (hv : (topI E).ver + 1#32 = v) (hver : (topI E).ver ≠ 4294967295#32) :
    Calls Try.prog 19 #[ptrV s, .slice A ws.length c] W fun e w' => e = .returned (.int .i64 (runS sy ep (commitS (entG E S v) v) E).2) ∧ Done w0 x s m sy ep (runS sy ep (commitS (entG E S v) v) E).1 out W w' :=
  commit_walk sort_ok h hlen hp E fb hE n hn ws hok A c hat hA hck hne htop S hS hmaps v hv hver
section
variable {w0 : World} {x s m : Nat} {sy ep : Int} {D : Dev} {out : Nat → Prop} {W : World}
set_option maxRecDepth 100000 in
set_option maxHeartbeats 2000000 in
theorem commit_none (h : Held w0 x s m sy ep D out W) (hlen : 132 ≤ D.st.length ∧ D.st.length ≤ 1155) (hp : D.pend.length ≤ 800000) (E : Dev) (fb : Bool) (hE : finD D sy ep = (E, fb, 0)) (ws : List (Int × ByteArray)) (hl : ws.length ≤ 1000000) (hok : ∀ e ∈ ws, okI e.1) (A : Option Addr) (c : Nat) (hat : ListAt W W.heap.size 2 A (ws.map entC)) (hA : ws ≠ [] → AsideL w0 out A) (hck : checkP (D.st.length - 131) ws ≠ 0 ∨ ws = []) :
    Calls Try.prog 19 #[ptrV s, .slice A ws.length c] W fun e w' => e = .returned (.int .i64 (checkP (D.st.length - 131) ws)) ∧ Done w0 x s m sy ep E out W w' := by
  have hfl := finD_len D sy ep
  rw [hE] at hfl
  have hEl : E.st.length = D.st.length := hfl.1
  have hls := h.store.lt
  have hw0 := h.live.base.size
  have hg0 : Grew W (W.alloc (.cells #[ptrV s] 34)) := (Grew.refl W).alloc _
  have hh0 : Held w0 x s m sy ep D out (W.alloc (.cells #[ptrV s] 34)) := h.grew hg0
  have hho : Held w0 x s m sy ep D (fun k => out k ∨ k = W.heap.size) (W.alloc (.cells #[ptrV s] 34)) := ⟨(h.live.more hg0).few (fun k hk => hk.elim .inl (fun h9 => .inr (by rw [h9]; simp))), h.store.grew hg0, .inl h.os, .inl h.om, h.m0⟩
  have hb0 : Blk (W.alloc (.cells #[ptrV s] 34)) W.heap.size 34 #[ptrV s] := Blk.new W _ _ rfl
  have HF := Lib.hid (finish_any hho hlen.1 (by omega) E fb 0 hE)
  obtain ⟨er, her⟩ : ∃ er, checkP (D.st.length - 131) ws = er := ⟨_, rfl⟩
  rw [her] at hck ⊢
  have HCK := Lib.hid (show checkP (E.st.length - 131) ws = er from by rw [hEl]; exact her)
  have HEL := Lib.hid (show 132 ≤ E.st.length ∧ E.st.length ≤ 1155 from by omega)
  have HH0 := Lib.hid hho
  have HB0 := Lib.hid hb0
  have HG0 := Lib.hid hg0
  have HAT := Lib.hid hat
  have hE0 : ws = [] → er = 0 := fun h9 => by rw [← her, h9]; unfold checkP; simp
  have HAS := Lib.hid (fun (h9 : er ≠ 0) => hA (fun h8 => h9 (hE0 h8)))
  have HWM := Lib.hid h.store
  have HOK := Lib.hid hok
  have HLS := Lib.hid hls
  clear hE0 h hlen hp hE hok hat hA hfl hEl hg0 hh0 hho hb0 her
  by_cases h0 : er = 0
  · subst h0
    have hw : ws = [] := hck.elim (fun h9 => absurd rfl h9) id
    subst hw
    clear hck
    go_enter Try.func19, Try.ntmps19
    go_wp2_with fail
    refine HF.out.mono ?_
    rintro e w1 ⟨rfl, hd⟩
    have hb1 : Blk w1 W.heap.size 34 #[ptrV s] := HB0.out.turned hd.turned (fun hq => hq.elim (fun h9 => h9.2 (.inr rfl)) (by have := HLS.out.2; omega))
    have HCH := Lib.hid (check_any (HH0.out.done hd) HEL.out [] (by simp) HOK.out A c (ListAt.none A))
    rw [HCK.out] at HCH
    have b2c := hb1.cell 0
    have b2l := hb1.lt
    have HD := Lib.hid hd
    clear hd hb1
    go_wp2_with fail
    refine HCH.out.mono ?_
    rintro e w2 ⟨rfl, g2⟩
    have HG2 := Lib.hid g2
    clear g2
    go_wp2_with fail
    go_ret
    exact ⟨rfl, done_narrow (HD.out.grew HG2.out) HG0.out (fun k hk => .inl hk)⟩
  · have hne : (er != 0) = true := by rw [bne_iff_ne]; exact h0
    clear hck
    go_enter Try.func19, Try.ntmps19
    go_wp2_with fail
    refine HF.out.mono ?_
    rintro e w1 ⟨rfl, hd⟩
    have hb1 : Blk w1 W.heap.size 34 #[ptrV s] := HB0.out.turned hd.turned (fun hq => hq.elim (fun h9 => h9.2 (.inr rfl)) (by have := HLS.out.2; omega))
    have hat1 : ListAt w1 w1.heap.size 2 A (ws.map entC) := listAt_stay (listAt_on HAT.out HG0.out) hd.turned (fun b off o u e hu hq => by
      rcases hq with hq | hq
      · rcases HAS.out h0 b off e with h9 | h9
        · exact absurd hq.1 (by have := h9; omega)
        · exact hq.2 (.inl h9)
      · obtain ⟨F, hFm, _⟩ := (HWM.out.grew HG0.out).seen
        exact cell_not_map hFm hu hq)
    have HCH := Lib.hid (check_any (HH0.out.done hd) HEL.out ws hl HOK.out A c hat1)
    rw [HCK.out] at HCH
    have b2c := hb1.cell 0
    have b2l := hb1.lt
    have HD := Lib.hid hd
    clear hd hb1 hat1 h0
    go_wp2_with fail
    refine HCH.out.mono ?_
    rintro e w2 ⟨rfl, g2⟩
    have HG2 := Lib.hid g2
    clear g2
    go_wp2_with fail
    go_ret
    exact ⟨rfl, done_narrow (HD.out.grew HG2.out) HG0.out (fun k hk => .inl hk)⟩
end
end Go.Proofs.Ytbddelefglhaaaa
