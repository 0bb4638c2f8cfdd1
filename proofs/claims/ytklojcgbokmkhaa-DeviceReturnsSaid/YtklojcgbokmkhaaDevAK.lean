/- Chapter 3: DeviceReturns, the walk. -/
import Derived.Test.YtklojcgbokmkhaaDevAJ
namespace Go.Proofs.Ytklojcgbokmkhaa
set_option linter.unusedVariables false
set_option linter.unusedSimpArgs false
set_option linter.unusedSectionVars false
open Go.RowKit
open Go.Maps (Keyed)
attribute [local go_sem ↓] Go.wp_at_zero Go.wp_at_succ
theorem Live.push {w0 ws ws' : World} {x : Nat} {D : Dev} {out : Nat → Prop} {row : Option Nat} (h : Live w0 x D out ws) (hg : ws.grownBy ws' row) (hr : ∀ k, row = some k → out k) (ho : ∀ k, out k → w0.heap.size ≤ k) {g : Nat} (hat : row = some g ∨ g = ws.heap.size) (hlt : g < ws'.heap.size) : Live w0 x D (fun k => out k ∨ k = g) ws' := by
  obtain ⟨q, hx, hd, hg0, hf, hn⟩ := h
  have ht := Turned.ofGrown hg
  refine ⟨q, hx, hd.kept ht (fun k hk h => (hn k (hr k h)).2 hk), hg0.turn ht (fun k h => ho k (hr k h)), hf, fun k hk => hk.elim (fun h => ⟨Nat.lt_of_lt_of_le (hn k h).1 ht.size, (hn k h).2⟩) (fun e => ?_)⟩
  subst e
  exact ⟨hlt, fun hk => hat.elim (fun h => (hn k (hr k h)).2 hk) (fun e => absurd (hd.feet_lt k hk) (by omega))⟩
set_option maxRecDepth 100000 in
set_option maxHeartbeats 8000000 in
theorem deviceReturns_any (A : Option Addr) (cc : Nat) (l : List ByteArray) (c : Nat) (hc : c < 256) (w : World) (hl : l.length ≤ 9223372036854775807) (HV0 : StrsAt w w.heap.size A l) :
    Calls Try.prog 5 #[.slice A l.length cc, .int .u8 (c : Int)] w fun e w' => e = .returned (.bool true) ∧ Grew w w' := by
  have HV := Lib.hid HV0
  have HAW := Lib.hid awake_any
  have HFE := Lib.hid (fun W => full_any ⟨#[]⟩ W (by decide))
  rw [fullS_empty] at HFE
  clear HV0
  by_cases hb : 20 < l.length
  · have hbi : (20 : Int) < (l.length : Int) := by omega
    go_enter Try.func5, Try.ntmps5
    go_wp2_with fail
    refine (HAW.out w).mono ?_
    rintro e w1 ⟨rfl, g1⟩
    go_wp2_with fail
    refine (HAW.out w1).mono ?_
    rintro e w2 ⟨rfl, g2⟩
    go_wp2_with fail
    go_ret
    exact ⟨rfl, g1.trans g2⟩
  · have hbi : (l.length : Int) ≤ 20 := by omega
    have hl20 : l.length ≤ 20 := by omega
    go_enter Try.func5, Try.ntmps5
    go_wp2_with fail
    refine (HAW.out w).mono ?_
    rintro e w1 ⟨rfl, g1⟩
    go_wp2_with fail
    refine (new_live 1 w1 (by omega) (by omega)).mono ?_
    rintro e w2 ⟨x, rfl, hL⟩
    have HL := Lib.hid hL
    have HG1 := Lib.hid g1
    have hz1 := g1.size
    have hz2 := hL.base.size
    have HH0 := Lib.hid HadD.new
    have hwb := Blk.new w2 40 #[.int .i64 1, .int .i64 0] rfl
    have hgb := (Grew.refl w2).alloc (.cells #[.int .i64 1, .int .i64 0] 40)
    clear hL g1
    generalize newD 1 = D0 at *
    go_wp2_with fail
    obtain ⟨w3, hw3⟩ : ∃ w3, w3 = w2.alloc (.cells #[.int .i64 1, .int .i64 0] 40) := ⟨_, rfl⟩
    rw [← hw3] at hwb hgb ⊢
    have hz3 : w3.heap.size = w2.heap.size + 1 := by rw [hw3]; simp
    have HZ3 := Lib.hid hz3
    have HL3 := Lib.hid ((HL.out.more hgb).few (out' := fun k => k = w2.heap.size) (fun k hk => .inr ⟨by omega, by omega⟩))
    have HG3 := Lib.hid ((HG1.out.trans HL.out.base).trans hgb)
    obtain ⟨bw, hbw⟩ : ∃ bw, w2.heap.size = bw := ⟨_, rfl⟩
    have hlt3 : bw < w3.heap.size := by omega
    have hge : w1.heap.size ≤ bw := by omega
    rw [hbw] at hwb HL3 ⊢
    have HWB := Lib.hid hwb
    clear hw3 hbw hwb hgb hz3
    refine (HFE.out w3).mono ?_
    rintro e w4 ⟨rfl, rfl⟩
    have hlit := OwnL.lit w3 w1.heap.size 9 1 (strC blank) rfl (by omega) rfl
    have hg4 := (Grew.refl w3).alloc (.cells #[.string blank] 9)
    have HL4 := Lib.hid ((HL3.out.more hg4).few (out' := fun k => k = bw ∨ (Value.slice (some ⟨w3.heap.size, 0, none⟩) 1 1).ownBlock = some k) (fun k hk => hk.elim .inl (fun h => .inr (by
      have h' : w3.heap.size = k := Option.some.inj h
      exact ⟨by omega, by simp; omega⟩))))
    have HB4 := Lib.hid (HWB.out.grew hg4)
    have HG4 := Lib.hid (HG3.out.trans hg4)
    have HO4 := Lib.hid hlit
    have hne4 : (Value.slice (some ⟨w3.heap.size, 0, none⟩) 1 1).ownBlock ≠ some bw := own_ne _ _ (by omega)
    clear hlit hg4
    go_wp2_with fail
    go_loopg [8, 39] l.length (fun gk hv iv wr => ∃ (j : Nat) (pre : List ByteArray) (cur : ByteArray) (D : Dev), j ≤ l.length ∧ gk = l.length - j ∧ iv = .int .i64 (j : Int) ∧ Live w1 x D (fun k => k = bw ∨ hv.ownBlock = some k) wr ∧ HadD D pre cur ∧ Blk wr bw 40 #[.int .i64 1, .int .i64 0] ∧ OwnL wr w1.heap.size 9 1 hv ((pre ++ [cur]).map strC) ∧ pre.length ≤ j ∧ hv.ownBlock ≠ some bw ∧ Grew w wr)
    case atStart => exact ⟨0, [], blank, D0, Nat.zero_le _, rfl, rfl, HL4.out, HH0.out, HB4.out, HO4.out, Nat.le_refl _, hne4, HG4.out⟩
    case round =>
      clear hne4
      obtain ⟨j, pre, cur, D, hj, hgk, rfl, hL, hH, hB, hO, hpj, hne, hG⟩ := hrel
      have HGK := Lib.hid hgk
      have HLr := Lib.hid hL
      have HH := Lib.hid hH
      have HBr := Lib.hid hB
      have HGr := Lib.hid hG
      have hplen : ((pre ++ [cur]).map strC).length = pre.length + 1 := by simp
      have HPL := Lib.hid hplen
      obtain ⟨g, cap, rfl, hgge, hglt, hcap1, hcap2⟩ : ∃ g cap, u8 = .slice (some ⟨g, 0, none⟩) (pre.length + 1) cap ∧ w1.heap.size ≤ g ∧ g < wr.heap.size ∧ pre.length + 1 ≤ cap ∧ cap ≤ 9223372036854775807 := by
        rcases hO.form with ⟨_, h0⟩ | ⟨g, cap, hv, h1, h2, h3, h4⟩
        · have := congrArg List.length h0; rw [hplen] at this; simp at this
        · rw [hplen] at hv h3; exact ⟨g, cap, hv, h1, h2, h3, h4⟩
      have HO := Lib.hid hO
      have HNE := Lib.hid (show g ≠ bw from fun e => hne (by rw [e]; rfl))
      clear hgk hL hH hB hO hG hplen hne
      by_cases hlt : j < l.length
      · obtain ⟨b, off, rfl, hbb, z0⟩ := str_at (HV.out.keep (Nat.le_refl _) HGr.out).2 hlt
        have hss := HV.out.1 _ (List.getElem_mem hlt)
        generalize l[j] = s at *
        have HFU := Lib.hid (full_all s wr hss)
        have hFS := fullS_size s
        generalize fullS s = fs at *
        have hbwr : b < wr.heap.size := by have := HGr.out.size; omega
        have hbb' := HBr.out
        have c0 := hbb'.cell 0
        have c1 := hbb'.cell 1
        have hbl := hbb'.lt
        obtain ⟨hpw, hps⟩ := put_calm HLr.out.ok HH.out.calm HH.out.pend (s := 1) (e := 0) (plainW_of (by omega) (by omega) (by omega) (by omega)) (i := 0) (by rw [HH.out.len]; decide) hFS
        have HPS := Lib.hid hps
        have HWL := Lib.hid (write_live HLr.out 1 0 0 fs (by rw [HH.out.pend]; decide) (by rw [hFS]; decide))
        rw [show writeD D 1 0 0 fs = writeD D 1 0 ((0 : Nat) : Int) fs from rfl, hpw] at HWL
        simp only at HWL
        have HHE := Lib.hid (HH.out.put HLr.out.ok hFS)
        obtain ⟨E1, hE1⟩ : ∃ E1, ({ D with pend := [⟨1, 0, fs⟩] } : Dev) = E1 := ⟨_, rfl⟩
        have hE1p : E1.pend.length = 1 := by rw [← hE1]; rfl
        obtain ⟨E, hE⟩ : ∃ E, ({ changeD D 0 fs with pend := [] } : Dev) = E := ⟨_, rfl⟩
        rw [hE1] at HWL HPS
        rw [hE] at HPS HHE
        clear hpw hps hE1 hE hbb'
        go_wp2_with fail
        refine HFU.out.mono ?_
        rintro e w5 ⟨rfl, rfl⟩
        go_wp2_with fail
        refine HWL.out.mono ?_
        rintro e w5 ⟨rfl, hl5, ht5⟩
        have hb5 := HBr.out.turned ht5 (fun h => h.2 (.inl rfl))
        have HO5 := Lib.hid (HO.out.kept ht5 (fun k hk h => h.2 (.inr hk)))
        have HG5 := Lib.hid (HGr.out.turn ht5 (fun k hk => by have := hk.1; omega))
        have HSL := Lib.hid (sync_live hl5 1 0 (by omega))
        rw [HPS.out] at HSL
        simp only at HSL
        have d0 := hb5.cell 0
        have d1 := hb5.cell 1
        have hbl5 := hb5.lt
        have HB5 := Lib.hid hb5
        clear hl5 ht5 c0 c1 hbl hb5 z0
        go_wp2_with fail
        refine HSL.out.mono ?_
        rintro e w6 ⟨rfl, hl6, ht6⟩
        have HL6 := Lib.hid hl6
        have HB6 := Lib.hid (HB5.out.turned ht6 (fun h => h.2 (.inl rfl)))
        have hO6 := HO5.out.kept ht6 (fun k hk h => h.2 (.inr hk))
        have HG6 := Lib.hid (HG5.out.turn ht6 (fun k hk => by have := hk.1; omega))
        have HO6 := Lib.hid hO6
        have hrow : ((pre ++ [cur]).map strC)[pre.length]? = some (strC cur) := by rw [List.getElem?_map, List.getElem?_append_right (Nat.le_refl _), Nat.sub_self]; rfl
        have e0 := hO6.cell (i := 0) hrow rfl
        rw [Nat.mul_one, Nat.add_zero] at e0
        have hgl6 := (hO6.own_ge (g := g) rfl).2
        have hpl1 : ((pre.length + 1 : Nat) : Int) - 1 = (pre.length : Int) := by omega
        have hpl2 : (pre.length : Int) + 1 - 1 = (pre.length : Int) := by omega
        clear hl6 ht6 d0 d1 hbl5 hO6 hrow
        by_cases heq : fs = cur
        · have hseq := str_eq heq
          have HHE2 := HHE.out
          rw [if_pos heq] at HHE2
          have HHF := Lib.hid HHE2
          have HEQ := Lib.hid heq
          clear heq HHE2
          go_wp2_with fail
          go_roundg (l.length - (j + 1))
          case measure => rw [HGK.out]; omega
          case rel => exact ⟨j + 1, pre, fs, E, by omega, by omega, by go_num, HL6.out, HHF.out, HB6.out, by rw [HEQ.out]; exact HO6.out, by omega, own_ne _ _ HNE.out, HG6.out⟩
        · have hseq := str_ne heq
          have HHE2 := HHE.out
          rw [if_neg heq] at HHE2
          have HHF := Lib.hid HHE2
          have hrl : ((pre ++ [cur]).map strC).length ≤ 1000000 := by rw [HPL.out]; omega
          clear heq HHE2
          go_wp2_with (at_builtin; (refine wpList_push2 rfl _ _ 27 rfl w1.heap.size 9 1 16 _ Try.underlying27 info_str rfl (by decide) _ _ ((pre ++ [cur]).map strC) (strC fs) rfl rfl (HO6.out.alloc _) w6.heap.size (by rfl) (Blk.new _ _ _ rfl) rfl (by rw [HPL.out]; omega) (by rw [HPL.out]; omega) (by simp; omega) (pre.length + 1) HPL.out ?_); intro g7 c7 w7 hown7 hgr7 hat7 hlt7)
          have hg6a := (Grew.refl w6).alloc (.cells #[.string fs] 9)
          have hL7 := (HL6.out.grew hg6a).push hgr7 (fun k hk => .inr hk) (fun k hk => hk.elim (fun h => by omega) (fun h => by have h' : g = k := Option.some.inj h; omega)) (hat7.elim (fun h => .inl h) (fun h => .inr h)) hlt7
          have HL7 := Lib.hid (hL7.few (out' := fun k => k = bw ∨ (Value.slice (some ⟨g7, 0, none⟩) (pre.length + 1 + 1) c7).ownBlock = some k) (fun k hk => hk.elim (fun h => .inl (.inl h)) (fun h => .inr (Option.some.inj h).symm)))
          have HB7 := Lib.hid ((HB6.out.grew hg6a).own hgr7 (own_ne _ _ HNE.out))
          have HG7 := Lib.hid (Grew.own (HG6.out.trans hg6a) hgr7 (base := w1.heap.size) (fun k hk => by have h' : g = k := Option.some.inj hk; omega) hz1)
          have hne7 : g7 ≠ bw := by
            rcases hat7 with h9 | h9
            · have h' : g = g7 := Option.some.inj h9
              rw [← h']; exact HNE.out
            · have := HB6.out.lt
              have hz9 : (w6.alloc (.cells #[.string fs] 9)).heap.size = w6.heap.size + 1 := by simp
              omega
          have HN7 := Lib.hid hne7
          have e9 : (pre ++ [cur]).map strC ++ [strC fs] = ((pre ++ [cur]) ++ [fs]).map strC := by rw [List.map_append (l₁ := pre ++ [cur])]; rfl
          rw [e9] at hown7
          have HO7 := Lib.hid hown7
          clear hg6a hL7 hgr7 hat7 hown7 e9 hne7 hrl
          go_roundg (l.length - (j + 1))
          case measure => rw [HGK.out]; omega
          case rel => exact ⟨j + 1, pre ++ [cur], fs, E, by omega, by omega, by go_num, HL7.out, HHF.out, HB7.out, HO7.out, by simp; omega, own_ne _ _ HN7.out, HG7.out⟩
      · obtain rfl : j = l.length := by omega
        have HEA := Lib.hid HH.out.earlier
        have HOL := Lib.hid (old_live HLr.out 0)
        rw [HEA.out] at HOL
        have hpl1 : ((pre.length + 1 : Nat) : Int) - 1 = (pre.length : Int) := by omega
        have hpl2 : (pre.length : Int) + 1 - 1 = (pre.length : Int) := by omega
        by_cases h0 : pre.length = 0
        · have hN : min 8 pre.length = 0 := by omega
          have hr0 : returnD D 0 1 = (D, 2) := by
            unfold returnD
            rw [if_pos (.inr (.inr (by show ((D.olds 0).length : Int) < 1; rw [HH.out.olds, List.length_take, List.length_reverse, hN]; decide)))]
          have HRT := Lib.hid (return_live HLr.out 0 1 (by unfold okI; omega) (by unfold okI; omega))
          rw [hr0] at HRT
          rw [hN] at HOL
          have hp0 : (pre.length : Int) = 0 := by omega
          clear hN hr0 hpl1 hpl2
          go_wp2_with fail
          refine HOL.out.mono ?_
          rintro e w5 ⟨rfl, rfl⟩
          go_wp2_with fail
          refine HRT.out.mono ?_
          rintro e w6 ⟨rfl, hl6, ht6⟩
          have HG6 := Lib.hid hl6.base
          have hgw1 := HGr.out
          have HGF := Lib.hid (hgw1.turn ht6 (fun k hk => by have := hk.1; omega))
          clear hl6 ht6 hgw1
          go_wp2_with fail
          go_ret
          exact ⟨rfl, HGF.out⟩
        · obtain ⟨N, hN⟩ : ∃ N, min 8 pre.length = N := ⟨_, rfl⟩
          rw [hN] at HOL
          have hN1 : 1 ≤ N := by omega
          have hN8 : N ≤ 8 := by omega
          have hNp : N ≤ pre.length := by omega
          have HNN := Lib.hid hN
          have hmin : (if (8 : Int) < (pre.length : Int) then (8 : Int) else (pre.length : Int)) = (N : Int) := by split <;> omega
          have hne0 : ((N : Int) == 0) = false := beq_eq_false_iff_ne.2 (by omega)
          have hne1 : ¬ (N : Int) = 0 := by omega
          have hbk : (c : Int) % (N : Int) = ((c % N : Nat) : Int) := by omega
          obtain ⟨r, hr⟩ : ∃ r, c % N = r := ⟨_, rfl⟩
          have hrN : r < N := by rw [← hr]; exact Nat.mod_lt _ (by omega)
          rw [hr] at hbk
          obtain ⟨F, hF1, hF2, hF3, hF4⟩ := HH.out.back HLr.out.ok (k := 1 + r) (by omega) (by rw [hN]; omega)
          have HRT := Lib.hid (return_live HLr.out 0 ((1 + r : Nat) : Int) (by unfold okI; omega) (by unfold okI; omega))
          rw [hF1] at HRT
          have hkk : ((1 + r : Nat) : Int) = 1 + (r : Int) := by omega
          rw [hkk] at HRT
          obtain ⟨u, hu⟩ : ∃ u, pre[pre.length - (1 + r)]? = some u := ⟨_, List.getElem?_eq_getElem (by omega)⟩
          have hu' := hu
          rw [List.getElem?_eq_getElem (by omega)] at hu'
          injection hu' with hu'
          rw [hu'] at hF3
          have HF2 := Lib.hid hF2
          have HF3 := Lib.hid hF3
          have hrow : ((pre ++ [cur]).map strC)[pre.length - (1 + r)]? = some (strC u) := by
            rw [List.getElem?_map, List.getElem?_append_left (by omega), hu]; rfl
          have HROW := Lib.hid hrow
          clear hu hrow hu'
          have hsum : 0 ≤ 1 + (r : Int) ∧ 1 + (r : Int) ≤ 1000 := by omega
          clear hN hF1 hF2 hF3 hF4 hkk hr h0
          go_wp2_with fail
          refine HOL.out.mono ?_
          rintro e w5 ⟨rfl, rfl⟩
          go_wp2_with fail
          refine HRT.out.mono ?_
          rintro e w6 ⟨rfl, hl6, ht6⟩
          have HO6 := Lib.hid (HO.out.kept ht6 (fun k hk h => h.2 (.inr hk)))
          have HG6 := Lib.hid (HGr.out.turn ht6 (fun k hk => by have := hk.1; omega))
          have HOF := Lib.hid (old_live hl6 0)
          rw [HF2.out] at HOF
          have HRF := Lib.hid (read_live hl6 0 u 0 HF3.out)
          clear hl6 ht6
          go_wp2_with fail
          refine HOF.out.mono ?_
          rw [show min 8 pre.length = N from HNN.out]
          rintro e w7 ⟨rfl, rfl⟩
          go_wp2_with fail
          refine HRF.out.mono ?_
          rintro e w7 ⟨rfl, rfl⟩
          have e0 := HO6.out.cell (i := 0) HROW.out rfl
          rw [Nat.mul_one, Nat.add_zero] at e0
          have hgl6 := (HO6.out.own_ge (g := g) rfl).2
          have hss : (u.toList == u.toList) = true := beq_self_eq_true _
          have hidx : (pre.length : Int) - (1 + (r : Int)) = ((pre.length - (1 + r) : Nat) : Int) := by omega
          have hidx0 : pre.length - (1 + r) < pre.length + 1 := by omega
          go_wp2_with fail
          go_ret
          exact ⟨rfl, HG6.out⟩
end Go.Proofs.Ytklojcgbokmkhaa
