/- Chapter 3: DeviceLasts. -/
import Derived.Test.YtklojcgbokmkhaaDevAH
namespace Go.Proofs.Ytklojcgbokmkhaa
set_option linter.unusedVariables false
set_option linter.unusedSimpArgs false
set_option linter.unusedSectionVars false
open Go.RowKit Go.ChangeShapes Go.WideShapes Go.ChangeAt Go.Deep
open Go.Maps (Keyed)
attribute [local go_sem ↓] Go.wp_at_zero Go.wp_at_succ
def IntsAt (w : World) (B : Nat) (A : Option Addr) (l : List Int) : Prop := (∀ n ∈ l, okI n) ∧ ListAt w B 1 A (l.map intC)
theorem IntsAt.keep {w w' : World} {B : Nat} {A : Option Addr} {l : List Int} (h : IntsAt w B A l) (hB : B ≤ w.heap.size) (hg : Grew w w') : IntsAt w' B A l := ⟨h.1, h.2.keep hB hg⟩
set_option maxRecDepth 100000 in
theorem open_intl {H : Type} {enc : TypeId × Value → H} {w : World} {r : Reach} {b0 : Nat} {v : Value} {d : DataW H} {ps : List MemPlace} (hv : Value.okWide Try.prog w r b0 30 v) (hd : DataW.Trod enc Try.prog w 0 (fun _ => true) true 30 v d ps) :
    ∃ A c, ∃ l : List Int, v = .slice A l.length c ∧ l.length ≤ c ∧ c ≤ 9223372036854775807 ∧ IntsAt w w.heap.size A l := by
  obtain ⟨A, c, l, rfl, h1, h2, h3, h4⟩ := open_list (α := Int) (sz := 1) Try.underlying30 (by kernel_rfl) (by omega) intC okI (fun n cs y hlen h => by
      match cs, hlen with
      | [v], _ =>
        obtain ⟨n0, hn0, _, w0⟩ := DataW.trod_int Try.underlying3 h
        injection hn0 with hn0 _
        subst hn0
        exact ⟨n0, wf_i64' w0, rfl⟩) hv hd
  exact ⟨A, c, l, rfl, h1, h2, h3, h4⟩
set_option maxRecDepth 100000 in
set_option maxHeartbeats 1000000 in
theorem full_all (s : ByteArray) (w : World) (hs : s.size ≤ 9223372036854775807) : Calls Try.prog 15 #[.string s] w fun e w' => e = .returned (.string (fullS s)) ∧ w = w' := by
  by_cases h : s.size ≤ 140
  · exact full_any s w (by omega)
  · have HF := Lib.hid (show fullS s = padS 140 (s.extract 0 140) from rfl)
    have hsz : (s.extract 0 140).size = 140 := by rw [ByteArray.size_extract]; omega
    have HP := Lib.hid (padded_any (s.extract 0 140) 140 w (by omega) (by omega))
    have h1 : 140 ≤ s.size := by omega
    clear hsz
    go_enter Try.func15, Try.ntmps15
    go_wp2_with fail
    refine HP.out.mono ?_
    rintro e w1 ⟨rfl, rfl⟩
    go_wp2_with fail
    go_ret
    exact ⟨ret_str (by rw [HF.out]), rfl⟩
/-- Crashing all systems ends all writes. -/
theorem crash_all {D : Dev} (h : D.Ok) (hp : ∀ r ∈ D.pend, 5 ≤ r.sys) : D.pend = [] := by
  cases hd : D.pend with
  | nil => rfl
  | cons r l =>
    have h1 := hp r (by rw [hd]; exact List.mem_cons_self ..)
    have h2 := (h.pend r (by rw [hd]; exact List.mem_cons_self ..)).2.2
    omega
set_option maxRecDepth 100000 in
set_option maxHeartbeats 8000000 in
theorem deviceLasts_any (c : Nat) (hc : c < 256) (text : ByteArray) (htx : text.size ≤ 9223372036854775807) (A : Option Addr) (cc : Nat) (l : List OpD) (A2 : Option Addr) (c2 : Nat) (sv : List Int) (w : World) (hl : l.length ≤ 9223372036854775807) (hsl : sv.length ≤ 9223372036854775807) (HV0 : OpsAt w w.heap.size A l) (HI0 : IntsAt w w.heap.size A2 sv) :
    Calls Try.prog 7 #[.int .u8 (c : Int), .string text, .slice A l.length cc, .slice A2 sv.length c2] w fun e w' => e = .returned (.bool true) ∧ Grew w w' := by
  have HV := Lib.hid HV0
  have HI := Lib.hid HI0
  have HAW := Lib.hid awake_any
  clear HV0 HI0
  cases hf : fewD l 15 with
  | false =>
    have HFW := Lib.hid hf
    clear hf
    go_enter Try.func7, Try.ntmps7
    go_wp2_with fail
    refine (HAW.out w).mono ?_
    rintro e w1 ⟨rfl, g1⟩
    go_wp2_with fail
    refine (few_any A cc l 15 w1 _ (HV.out.keep (Nat.le_refl _) g1) g1.size hl (by omega)).mono ?_
    rintro e w2 ⟨rfl, rfl⟩
    rw [HFW.out]
    go_wp2_with fail
    refine (HAW.out w1).mono ?_
    rintro e w2 ⟨rfl, g2⟩
    go_wp2_with fail
    go_ret
    exact ⟨rfl, g1.trans g2⟩
  | true =>
    by_cases hs40 : 40 < sv.length
    · have HFW := Lib.hid hf
      have hs40i : (40 : Int) < (sv.length : Int) := by omega
      clear hf
      go_enter Try.func7, Try.ntmps7
      go_wp2_with fail
      refine (HAW.out w).mono ?_
      rintro e w1 ⟨rfl, g1⟩
      go_wp2_with fail
      refine (few_any A cc l 15 w1 _ (HV.out.keep (Nat.le_refl _) g1) g1.size hl (by omega)).mono ?_
      rintro e w2 ⟨rfl, rfl⟩
      rw [HFW.out]
      go_wp2_with fail
      refine (HAW.out w1).mono ?_
      rintro e w2 ⟨rfl, g2⟩
      go_wp2_with fail
      go_ret
      exact ⟨rfl, g1.trans g2⟩
    · have hs40i : (sv.length : Int) ≤ 40 := by omega
      have hl15 := fewD_len hf
      have HFL := fun k hk => Lib.hid (fewD_at hf (k := k) hk)
      have HFW := Lib.hid hf
      clear hf
      go_enter Try.func7, Try.ntmps7
      go_wp2_with fail
      refine (HAW.out w).mono ?_
      rintro e w1 ⟨rfl, g1⟩
      go_wp2_with fail
      refine (few_any A cc l 15 w1 _ (HV.out.keep (Nat.le_refl _) g1) g1.size hl (by omega)).mono ?_
      rintro e w2 ⟨rfl, rfl⟩
      rw [HFW.out]
      go_wp2_with fail
      refine (begin_any 5 (by omega) w1).mono ?_
      rintro e w2 ⟨x, p, rfl, hL, hR, hF⟩
      have HG1 := Lib.hid g1
      have hg2 := hL.base
      have hb4 := Blk.new w2 32 #[.slice none 0 0, .slice none 0 0, .slice none 0 0, .slice none 0 0, .bool false, .int .i64 0, .slice none 0 0] rfl
      have HL := Lib.hid (hL.few (out' := fun _ => False) (fun k hk => hk.elim))
      have hz1 := g1.size
      clear hL hR hF g1
      go_upto_region 4 with (refine wpList_store_blk rfl 32 _ _ rfl w2.heap.size (rv p (newD (1 + 5 % 6))) rfl rfl 32 _ hb4 rfl info_rdev (rv_one _ _) ?_)
      have hg5 : Grew w2 ((w2.alloc (.cells #[.slice none 0 0, .slice none 0 0, .slice none 0 0, .slice none 0 0, .bool false, .int .i64 0, .slice none 0 0] 32)).setRow w2.heap.size (rv p (newD (1 + 5 % 6)))) := ((Grew.refl w2).alloc (.cells #[.slice none 0 0, .slice none 0 0, .slice none 0 0, .slice none 0 0, .bool false, .int .i64 0, .slice none 0 0] 32)).setRow (Nat.le_refl _) _
      obtain ⟨w5, hw5⟩ : ∃ w5, w5 = (w2.alloc (.cells #[.slice none 0 0, .slice none 0 0, .slice none 0 0, .slice none 0 0, .bool false, .int .i64 0, .slice none 0 0] 32)).setRow w2.heap.size (rv p (newD (1 + 5 % 6))) := ⟨_, rfl⟩
      rw [← hw5] at hg5 ⊢
      clear hw5 hb4
      have HL5 := Lib.hid (HL.out.grew hg5)
      have HG5 := Lib.hid ((HG1.out.trans hg2).trans hg5)
      have HC0 := Lib.hid (calm_new (1 + 5 % 6))
      have HP0 := Lib.hid (newD_pend (1 + 5 % 6))
      have HN0 := Lib.hid (show (newD (1 + 5 % 6)).st.length = 6 from List.length_replicate ..)
      generalize newD (1 + 5 % 6) = D0 at *
      clear hg5 hg2 HL
      go_wp2_with fail
      go_loopg [43] l.length (fun gk iv wr => ∃ (j : Nat) (D : Dev), j ≤ l.length ∧ gk = l.length - j ∧ iv = .int .i64 (j : Int) ∧ Live w1 x D (fun _ => False) wr ∧ CalmD D ∧ D.st.length = 6 ∧ D.pend.length ≤ j ∧ Grew w wr)
      case atStart => exact ⟨0, D0, Nat.zero_le _, rfl, rfl, HL5.out, HC0.out, HN0.out, (by rw [HP0.out]; exact Nat.le_refl _), HG5.out⟩
      case round =>
        obtain ⟨j, D, hj, hgk, rfl, hL, hC, hN, hP, hG⟩ := hrel
        have HGK := Lib.hid hgk
        have HLr := Lib.hid hL
        have HC := Lib.hid hC
        have HN := Lib.hid hN
        have HGr := Lib.hid hG
        clear hgk hL hC hN hG
        by_cases hlt : j < l.length
        · obtain ⟨b, off, rfl, hbb, hok, hcs⟩ := (HV.out.keep (Nat.le_refl _) HGr.out).at_ hlt
          have hfl := (HFL j hlt).out
          obtain ⟨o, ho⟩ : ∃ o, l[j] = o := ⟨_, rfl⟩
          rw [ho] at hok hcs hfl
          have z0 : wr.cell? ⟨b, off + j * 8, none⟩ = some (.int .u8 (o.kind : Int)) := hcs 0 _ rfl
          have z1 := hcs 1 _ rfl
          have z2 := hcs 2 _ rfl
          have z3 := hcs 3 _ rfl
          have z4 := hcs 4 _ rfl
          have z5 := hcs 5 _ rfl
          have z6 := hcs 6 _ rfl
          have z7 := hcs 7 _ rfl
          have HOK := Lib.hid hok
          have HO := Lib.hid ho
          have hbw : b < wr.heap.size := by have := HGr.out.size; omega
          have hk256 := hok.kind
          clear hcs hok ho
          have hva := Blk.new wr 57 (opV o) rfl
          have hga := (Grew.refl wr).alloc (.cells (opV o) 57)
          go_upto_region 9 with fail
          obtain ⟨wa, hwa⟩ : ∃ wa, wa = wr.alloc (.cells (opV o) 57) := ⟨_, rfl⟩
          have hwa' := hwa
          unfold opV at hwa'
          rw [← hwa']
          rw [← hwa] at hva hga
          clear hwa hwa' z0 z1 z2 z3 z4 z5 z6 z7
          have HLA := Lib.hid (HLr.out.grew hga)
          have HGA := Lib.hid (HGr.out.trans hga)
          have hval := hva.lt
          have hAs : Aside w1 (fun _ => False) o.A o.sv.length := fun hp b off e => .inl (by
            have hokw := (HV.out.1 l[j] (List.getElem_mem hlt)).list
            rw [HO.out] at hokw
            obtain ⟨b', off', e', hb', _⟩ := hokw (by simpa using hp)
            rw [e] at e'
            injection e' with e'
            injection e' with e' _ _
            omega)
          have HDL := Lib.hid (do_live HLA.out o (HOK.out.keep hga) hAs (by omega) (by omega))
          have hv0 := hva.cell 0
          have hv0' : wa.cell? ⟨wr.heap.size, 0, none⟩ = some (.int .u8 (o.kind : Int)) := hv0
          have hpd := doD_pend D o
          by_cases h34 : o.kind % 8 = 3 ∨ o.kind % 8 = 4
          · rcases h34 with hm | hm
            · have hr : (o.kind : Int) % 8 = 3 := by omega
              clear hv0 hva hAs
              go_wp2_with fail
              go_roundg (l.length - (j + 1))
              case measure => rw [HGK.out]; omega
              case rel => exact ⟨j + 1, D, by omega, by omega, by go_num, HLA.out, HC.out, HN.out, by omega, HGA.out⟩
            · have hr : (o.kind : Int) % 8 = 4 := by omega
              clear hv0 hva hAs
              go_wp2_with fail
              go_roundg (l.length - (j + 1))
              case measure => rw [HGK.out]; omega
              case rel => exact ⟨j + 1, D, by omega, by omega, by go_num, HLA.out, HC.out, HN.out, by omega, HGA.out⟩
          · have HCD := Lib.hid (calm_do HLr.out.ok HC.out o (fun h => h34 (.inl h)) (fun h => h34 (.inr h)))
            obtain ⟨r, hr⟩ : ∃ r : Int, (o.kind : Int) % 8 = r := ⟨_, rfl⟩
            have hr3 : (r == 3) = false := beq_eq_false_iff_ne.2 (by omega)
            have hr4 : (r == 4) = false := beq_eq_false_iff_ne.2 (by omega)
            have hr3' : (r != 3) = true := bne_iff_ne.2 (by omega)
            have hr4' : (r != 4) = true := bne_iff_ne.2 (by omega)
            clear hv0 hAs h34
            go_wp2_with (refine wpList_load_blk rfl 57 _ rfl wr.heap.size rfl 57 (opV o) _ hva Try.underlying57 rfl info_op ?_)
            refine HDL.out.mono ?_
            rintro e w6 ⟨rfl, hl6, ht6⟩
            have HL6 := Lib.hid hl6
            have HG6 := Lib.hid (HGA.out.turn ht6 (fun k hk => by have := hk.1; omega))
            clear hl6 ht6 hva hv0'
            go_wp2_with fail
            go_roundg (l.length - (j + 1))
            case measure => rw [HGK.out]; omega
            case rel => exact ⟨j + 1, _, by omega, by omega, by go_num, HL6.out, HCD.out.1, HCD.out.2.trans HN.out, by omega, HG6.out⟩
        · obtain rfl : j = l.length := by omega
          obtain ⟨i, hi⟩ : ∃ i, c % 6 = i := ⟨_, rfl⟩
          have hic : (c : Int) % 6 = (i : Int) := by omega
          have hi6 : i < 6 := by omega
          have hFS := fullS_size text
          have HFU := Lib.hid (full_all text)
          have hwb := Blk.new wr 40 #[.int .i64 2, .int .i64 1] rfl
          have hgb := (Grew.refl wr).alloc (.cells #[.int .i64 2, .int .i64 1] 40)
          have HLW := Lib.hid ((HLr.out.more hgb).few (out' := fun k => k = wr.heap.size) (fun k hk => .inr ⟨by omega, by simp [hk]⟩))
          have HGW := Lib.hid (HGr.out.trans hgb)
          have hge := HLr.out.base.size
          clear hi
          go_wp2_with fail
          refine (HFU.out wr htx).mono ?_
          rintro e w6 ⟨rfl, rfl⟩
          generalize fullS text = s at *
          go_upto_region 13 with fail
          obtain ⟨w7, hw7⟩ : ∃ w7, w7 = wr.alloc (.cells #[.int .i64 2, .int .i64 1] 40) := ⟨_, rfl⟩
          rw [← hw7] at hwb hgb HLW HGW ⊢
          obtain ⟨bw, hbw⟩ : ∃ bw, wr.heap.size = bw := ⟨_, rfl⟩
          rw [hbw] at hwb HLW hge ⊢
          have HWB := Lib.hid hwb
          clear hw7 hbw hwb hgb
          go_wp2_with fail
          go_loopg [17] 4 (fun gk kv wk => ∃ (m : Nat) (D : Dev), 1 ≤ m ∧ m ≤ 5 ∧ gk = 5 - m ∧ kv = .int .i64 (m : Int) ∧ Live w1 x D (fun k => k = bw) wk ∧ CalmD D ∧ D.st.length = 6 ∧ D.pend.length ≤ 15 ∧ (∀ r ∈ D.pend, (m : Int) ≤ r.sys) ∧ Blk wk bw 40 #[.int .i64 2, .int .i64 1] ∧ Grew w wk)
          case atStart => exact ⟨1, D, by omega, by omega, rfl, rfl, HLW.out, HC.out, HN.out, by omega, fun r hr => (HLr.out.ok.pend r hr).2.2.1, HWB.out, HGW.out⟩
          case round =>
            clear hP
            obtain ⟨m, E, hm1, hm5, hgk, rfl, hL, hC, hN, hP, hS, hB, hG⟩ := hrel
            have HGK2 := Lib.hid hgk
            have HLk := Lib.hid hL
            have HCk := Lib.hid hC
            have HNk := Lib.hid hN
            have HSk := Lib.hid hS
            have HBk := Lib.hid hB
            have HGk := Lib.hid hG
            clear hgk hL hC hN hS hB hG
            by_cases hm : m ≤ 4
            · have hmi : (m : Int) ≤ 4 := by omega
              have HCR := Lib.hid (crash_live HLk.out (m : Int) none 0 [] (ListAt.none _) (fun h => absurd h (by decide)) (by decide) (fun n hn => by cases hn) (by omega))
              have HCC := Lib.hid (crashD_calm HLk.out.ok HCk.out (m : Int) [])
              go_wp2_with fail
              refine HCR.out.mono ?_
              rintro e w8 ⟨rfl, hl8, ht8⟩
              have HL8 := Lib.hid hl8
              have HB8 := Lib.hid (HBk.out.turned ht8 (fun h => h.2 rfl))
              have HG8 := Lib.hid (HGk.out.turn ht8 (fun k hk => by have := hk.1; omega))
              clear hl8 ht8
              go_wp2_with fail
              go_roundg (5 - (m + 1))
              case measure => rw [HGK2.out]; omega
              case rel =>
                refine ⟨m + 1, crashD E (m : Int) [], by omega, by omega, by omega, by go_num, HL8.out, HCC.out.1, HCC.out.2.trans HNk.out, Nat.le_trans (List.length_filter_le _ _) hP, fun r hr => ?_, HB8.out, HG8.out⟩
                have h1 := List.mem_filter.1 hr
                have h2 := HSk.out r h1.1
                have h3 : ¬ r.sys = (m : Int) := fun e => by
                  have := h1.2
                  unfold ofSys at this
                  rw [decide_eq_true e] at this
                  cases this
                omega
            · obtain rfl : m = 5 := by omega
              have hpn : E.pend = [] := crash_all HLk.out.ok (fun r hr => by have := HSk.out r hr; omega)
              have hiE : i < E.st.length := by rw [HNk.out]; exact hi6
              obtain ⟨hpw, hps⟩ := put_calm HLk.out.ok HCk.out hpn (s := 2) (e := 1) (plainW_of (by omega) (by omega) (by omega) (by omega)) hiE hFS
              have HPW := Lib.hid hpw
              have HPS := Lib.hid hps
              have HWL := Lib.hid (write_live HLk.out 2 1 (i : Int) s (by rw [hpn]; decide) (by rw [hFS]; decide))
              rw [HPW.out] at HWL
              simp only at HWL
              have hF : ({ changeD E i s with pend := [] } : Dev).at i = s := changeD_at hiE s
              have hFC := changeD_calm HCk.out i s
              have hFL : ({ changeD E i s with pend := [] } : Dev).st.length = E.st.length := changeD_len E i s
              obtain ⟨F, hFd⟩ : ∃ F, ({ changeD E i s with pend := [] } : Dev) = F := ⟨_, rfl⟩
              have hFp : F.pend = [] := by rw [← hFd]
              rw [hFd] at hF hFC hFL HPS
              have HF := Lib.hid hF
              have HFC := Lib.hid hFC
              have HFL := Lib.hid (show i < F.st.length from by omega)
              have HFP := Lib.hid hFp
              obtain ⟨E1, hE1⟩ : ∃ E1, ({ E with pend := [⟨2, i, s⟩] } : Dev) = E1 := ⟨_, rfl⟩
              have hE1p : E1.pend.length = 1 := by rw [← hE1]; rfl
              rw [hE1] at HWL HPS
              have hb := HBk.out
              have c0 := hb.cell 0
              have c1 := hb.cell 1
              have hbl := hb.lt
              clear hpw hps hF hFC hFL hFd hFp hE1 hpn hm hb
              go_wp2_with fail
              refine HWL.out.mono ?_
              rintro e w8 ⟨rfl, hl8, ht8⟩
              have hb8 := HBk.out.turned ht8 (fun h => h.2 rfl)
              have HG8 := Lib.hid (HGk.out.turn ht8 (fun k hk => by have := hk.1; omega))
              have HSL := Lib.hid (sync_live hl8 2 1 (by omega))
              rw [HPS.out] at HSL
              simp only at HSL
              have d0 := hb8.cell 0
              have d1 := hb8.cell 1
              have hbl8 := hb8.lt
              clear hl8 ht8 c0 c1 hbl hb8
              go_wp2_with fail
              refine HSL.out.mono ?_
              rintro e w9 ⟨rfl, hl9, ht9⟩
              have HL9 := Lib.hid hl9
              have HG9 := Lib.hid (HG8.out.turn ht9 (fun k hk => by have := hk.1; omega))
              have HPN := Lib.hid (pending_live hl9 2 (by rw [HFP.out]; decide))
              have hwz : waitD F 2 = 0 := by unfold waitD; rw [HFP.out]; rfl
              rw [hwz] at HPN
              clear hl9 ht9 d0 d1 hbl8 hwz
              go_wp2_with fail
              refine HPN.out.mono ?_
              rintro e w10 ⟨rfl, g10⟩
              have HL10 := Lib.hid (HL9.out.grew g10)
              have HG10 := Lib.hid (HG9.out.trans g10)
              clear g10
              go_wp2_with fail
              go_loopg [18] 4 (fun gk kv wk => ∃ (m : Nat), 1 ≤ m ∧ m ≤ 5 ∧ gk = 5 - m ∧ kv = .int .i64 (m : Int) ∧ Live w1 x F (fun k => k = bw) wk ∧ Grew w wk)
              case atStart => exact ⟨1, by omega, by omega, rfl, rfl, HL10.out, HG10.out⟩
              case round =>
                obtain ⟨m, hm1, hm5, hgk, rfl, hL, hG⟩ := hrel
                have HGK3 := Lib.hid hgk
                have HLk3 := Lib.hid hL
                have HGk3 := Lib.hid hG
                clear hgk hL hG
                by_cases hm : m ≤ 4
                · have hmi : (m : Int) ≤ 4 := by omega
                  have hkeep := HI.out.2.keep (Nat.le_refl _) HGk3.out
                  have HCR := Lib.hid (crash_live HLk3.out (m : Int) A2 c2 sv (hkeep.mono HGk3.out.size) (fun hp b off e => .inl (by
                    obtain ⟨b', off', e', hb', _⟩ := HI.out.2 (by simpa using hp)
                    rw [e] at e'
                    injection e' with e'
                    injection e' with e' _ _
                    omega)) hsl HI.out.1 (by rw [HFP.out]; decide))
                  rw [show crashD F (m : Int) sv = F from finishD_empty HFP.out _ _] at HCR
                  clear hkeep
                  go_wp2_with fail
                  refine HCR.out.mono ?_
                  rintro e w11 ⟨rfl, hl8, ht8⟩
                  have HL8 := Lib.hid hl8
                  have HG8 := Lib.hid (HGk3.out.turn ht8 (fun k hk => by have := hk.1; omega))
                  clear hl8 ht8
                  go_wp2_with fail
                  go_roundg (5 - (m + 1))
                  case measure => rw [HGK3.out]; omega
                  case rel => exact ⟨m + 1, by omega, by omega, by omega, by go_num, HL8.out, HG8.out⟩
                · obtain rfl : m = 5 := by omega
                  have hrd := readD_at HFC.out.failed HFP.out HFL.out
                  rw [HF.out] at hrd
                  have HRD := Lib.hid (read_live HLk3.out (i : Int) s 0 hrd)
                  have hss : (s.toList == s.toList) = true := beq_self_eq_true _
                  clear hrd
                  go_wp2_with fail
                  refine HRD.out.mono ?_
                  rintro e w12 ⟨rfl, rfl⟩
                  go_wp2_with fail
                  go_ret
                  exact ⟨rfl, HGk3.out⟩
end Go.Proofs.Ytklojcgbokmkhaa
