/- Chapter 4: PagesNotices. Chapter 4's laws: lists of harms, opened as arguments. -/
import Derived.ProofKit
import Derived.OpenShut
import Derived.Deep.Slices
import Derived.Deep.Fields
import Derived.ChangeSame
import Derived.Test.YtbddelefglhaaaaRows
import Derived.WalkKit
import Derived.Laws.Tables
import Derived.Deep.QuietTactic
import Derived.Test.YtbddelefglhaaaaCpA
import Derived.Test.YtbddelefglhaaaaCpB
import Derived.Test.YtbddelefglhaaaaCpC
import Derived.Test.YtbddelefglhaaaaCpD
import Derived.Test.YtbddelefglhaaaaCpE
import Derived.Test.YtbddelefglhaaaaCpF
import Derived.Test.YtbddelefglhaaaaCpG
import Derived.Test.YtbddelefglhaaaaCpH
import Derived.Test.YtbddelefglhaaaaCpI
import Derived.Test.YtbddelefglhaaaaCpJ
import Derived.Test.YtbddelefglhaaaaCpK
import Derived.Test.YtbddelefglhaaaaCpL
import Derived.Test.YtbddelefglhaaaaCqA
import Derived.Test.YtbddelefglhaaaaCqB
namespace Go.Proofs.Ytbddelefglhaaaa
set_option linter.unusedVariables false
set_option linter.unusedSimpArgs false
set_option linter.unusedSectionVars false
open Go.RowKit
attribute [local go_sem ↓] Go.wp_at_zero Go.wp_at_succ
set_option maxRecDepth 100000 in
set_option maxHeartbeats 1000000 in
theorem beginH_any (k : Nat) (hk : k < 256) (w : World) : Calls Try.prog 16 #[.int .u8 (k : Int)] w fun e w' => ∃ x E, e = .returned (.tuple #[ptrV x, .bool true]) ∧ BegunR w x (1 + k % 40) E w' ∧ Hist E (img0 (1 + k % 40)) := by
  obtain ⟨r, hr⟩ : ∃ r : Nat, k % 40 = r := ⟨_, rfl⟩
  rw [hr]
  have hr40 : r < 40 := by omega
  have hr1 : (k : Int) % 40 = (r : Int) := by omega
  have hr2 : Int.tmod (k : Int) 40 = (r : Int) := by rw [Int.tmod_eq_emod_of_nonneg (by omega)]; exact hr1
  have hw1 : IntKind.u8.wrap (r : Int) = (r : Int) := IntWalk.u8_in _ (by omega)
  have hw2 : IntKind.i64.wrap (r : Int) = (r : Int) := IntWalk.i64_in _ (by omega)
  have hw3 : IntKind.i64.wrap (132 + (r : Int)) = 132 + (r : Int) := IntWalk.i64_in _ (by omega)
  have HN := Lib.hid (new_any (132 + r) w (by omega) (by omega))
  rw [show ((132 + r : Nat) : Int) = 132 + (r : Int) from by omega] at HN
  have hst : (newD (132 + r)).st.length = 131 + (1 + r) := by unfold newD; simp; omega
  have hcalm : Calm (newD (132 + r)) 1 0 := ⟨newD_ok _ (by omega) (by omega), rfl, by unfold plainW; decide, by show ¬ (0 : Int) < 0; omega⟩
  obtain ⟨E, hE, hcl, hfen, hfuse⟩ := format_clean (n := 1 + r) hcalm rfl rfl hst (by omega) (by omega)
  have HHI := Lib.hid (fmt_hist (n := 1 + r) (by omega) (by omega) (by rw [show 131 + (1 + r) = 132 + r from by omega]; exact hE) hcl)
  have HFM := Lib.hid (fun (x : Nat) (W : World) (h : Live w x (newD (132 + r)) (fun _ => False) W) => format_any h (by rw [hst]; omega) (sy := 1) (ep := 0) (by omega) (by omega) (by show 0 ≤ 900000; omega))
  rw [hE] at HFM
  have HCL := Lib.hid hcl
  have HFN := Lib.hid (show E.fen = fun _ => 0 from by rw [hfen]; rfl)
  have HFU := Lib.hid hfuse
  clear hr hst hcalm hE hcl hfen hfuse
  go_enter Try.func16, Try.ntmps16
  go_wp2_with fail
  refine HN.out.mono ?_
  rintro e w1 ⟨x, q, rfl, hq, hd, g1, hft⟩
  have HL := Lib.hid (show Live w x (newD (132 + r)) (fun _ => False) w1 from ⟨q, hq, hd, g1, hft, fun k h => h.elim⟩)
  clear hq hd g1 hft
  go_wp2_with fail
  refine (writerL_any 0 (by omega) _).mono ?_
  rintro e w2 ⟨rfl, g2⟩
  have HL2 := Lib.hid (HL.out.grew g2)
  clear g2
  rw [show sysL 0 = 1 from rfl]
  go_wp2_with fail
  refine (HFM.out x _ HL2.out).mono ?_
  rintro e w3 ⟨rfl, hl3, _⟩
  go_wp2_with fail
  go_ret2
  exact ⟨x, E, rfl, ⟨hl3, HCL.out, HFN.out, HFU.out⟩, HHI.out⟩
set_option maxRecDepth 100000 in
set_option maxHeartbeats 4000000 in
theorem pagesNotices_any (k : Nat) (hk : k < 256) (A : Option Addr) (c : Nat) (xs : List WsE) (B : Option Addr) (cb : Nat) (hs : List HarmD) (w : World) (hat : LstsAt w w.heap.size A xs) (hxl : xs.length ≤ 9223372036854775807) (hbt : HarmsAt w w.heap.size B hs) (hhl : hs.length ≤ 9223372036854775807) :
    Calls Try.prog 8 #[.int .u8 (k : Int), .slice A xs.length c, .slice B hs.length cb] w fun e w' => e = .returned (.bool true) ∧ Grew w w' := by
  have HAT := Lib.hid hat
  have HBT := Lib.hid hbt
  have HSH := Lib.hid (fun (w1 : World) (g : Grew w w1) => few4_any xs A c w1 (hat.on g) hxl)
  clear hat hbt
  cases hs0 : fewLs xs with
  | false =>
    rw [hs0] at HSH
    clear hs0
    go_enter Try.func8, Try.ntmps8
    go_wp2_with fail
    refine (awake4_any w).mono ?_
    rintro e w1 ⟨rfl, g1⟩
    have HG1 := Lib.hid g1
    clear g1
    go_wp2_with fail
    refine (HSH.out w1 HG1.out).mono ?_
    rintro e w2 ⟨rfl, g2⟩
    have HG2 := Lib.hid (HG1.out.trans g2)
    clear g2
    go_wp2_with fail
    refine (awake4_any w2).mono ?_
    rintro e w3 ⟨rfl, g3⟩
    go_wp2_with fail
    go_ret
    exact ⟨rfl, HG2.out.trans g3⟩
  | true =>
  by_cases hl30 : 30 < hs.length
  · rw [hs0] at HSH
    have hgt : (hs.length : Int) > 30 := by omega
    clear hs0
    go_enter Try.func8, Try.ntmps8
    go_wp2_with fail
    refine (awake4_any w).mono ?_
    rintro e w1 ⟨rfl, g1⟩
    have HG1 := Lib.hid g1
    clear g1
    go_wp2_with fail
    refine (HSH.out w1 HG1.out).mono ?_
    rintro e w2 ⟨rfl, g2⟩
    have HG2 := Lib.hid (HG1.out.trans g2)
    clear g2
    go_wp2_with fail
    refine (awake4_any w2).mono ?_
    rintro e w3 ⟨rfl, g3⟩
    go_wp2_with fail
    go_ret
    exact ⟨rfl, HG2.out.trans g3⟩
  · obtain ⟨_, hx6⟩ := fewLs_facts hs0
    have HFW := Lib.hid hs0
    rw [hs0] at HSH
    have hgt : ¬ (hs.length : Int) > 30 := by omega
    have hn1 : 1 + k % 40 ≤ 1024 := by omega
    have HBG := Lib.hid (fun (w2 : World) => beginH_any k hk w2)
    obtain ⟨n, hn⟩ : ∃ n, 1 + k % 40 = n := ⟨_, rfl⟩
    rw [hn] at HBG hn1
    have hn0 : 1 ≤ n := by omega
    have hh30 : hs.length ≤ 30 := by omega
    clear hs0 hk hn hxl hl30 hhl
    go_enter Try.func8, Try.ntmps8
    go_wp2_with fail
    refine (awake4_any w).mono ?_
    rintro e w1 ⟨rfl, g1⟩
    have HG1 := Lib.hid g1
    clear g1
    go_wp2_with fail
    refine (HSH.out w1 HG1.out).mono ?_
    rintro e w2 ⟨rfl, g2⟩
    have HG2 := Lib.hid (HG1.out.trans g2)
    clear g2
    go_wp2_with fail
    refine (HBG.out w2).mono ?_
    rintro e w3 ⟨x, E, rfl, hbg, hhi⟩
    have HFI := Lib.hid (fill_any hbg.live hbg.neat xs A c (HAT.out.on HG2.out) HFW.out)
    have HFH := Lib.hid (fill_hist xs hbg.neat hhi xs.length (by omega))
    clear hbg hhi
    go_wp2_with fail
    refine HFI.out.mono ?_
    rintro e w4 ⟨v1, D1, I1, rfl, ho1, hl1, _, hne, hin, hNb, hfk⟩
    have hhi1 := HFH.out.1
    rw [hfk] at hhi1
    simp only at hhi1
    have hDl : D1.st.length = 131 + n := by rw [hne.clean.len, hin]
    have HSE := Lib.hid (sectors_live hl1)
    have hcl : ((csL I1).map fun s => [Value.string s]).length = n := by rw [List.length_map, csL_len, hin]
    obtain ⟨B1, c1, rfl, _, _, _⟩ := ho1.listAt
    rw [hcl] at ho1 hl1 ⊢
    have HHM := Lib.hid (harmL_any hl1 1 (D1.st.length - 1) (by omega) (by omega) (by omega) false hs B cb (HBT.out.on HG2.out) hh30)
    rw [hDl, show ((131 + n - 1 : Nat) : Int) = 131 + (n : Int) - 1 from by omega, show ((1 : Nat) : Int) = 1 from rfl] at HHM
    rw [hDl, show ((131 + n : Nat) : Int) = 131 + (n : Int) from by omega] at HSE
    have HO4 := Lib.hid ho1
    have HNE := Lib.hid hne
    have HIN := Lib.hid hin
    have HNB := Lib.hid hNb
    have HHI := Lib.hid hhi1
    have HDL := Lib.hid hDl
    clear ho1 hl1 hne hin hNb hfk hhi1 hDl hcl
    go_wp2_with fail
    refine HSE.out.mono ?_
    rintro e w5 ⟨rfl, rfl⟩
    go_wp2_with fail
    refine HHM.out.mono ?_
    rintro e w6 ⟨g, D2, H, rfl, hmp, _, hl2, hb2, hhd⟩
    have ho2 := HO4.out.beside hb2 (fun q hq => .inr hq)
    have hhd2 : Harmed 1 (D1.st.length - 1) false D1 D2 H := by rw [HDL.out]; exact hhd
    obtain ⟨F, hop, hsick⟩ := harm_opens HHI.out HNE.out (by have := HNB.out; omega) hhd2
    have hD2l : D2.st.length = 131 + n := hhd.len.trans HDL.out
    have HOP := Lib.hid (openL_any hl2 (by omega) (by rw [hhd.pend, HNE.out.clean.pend]; simp) 1 (by omega) F hop)
    have HO6 := Lib.hid ho2
    have HM6 := Lib.hid hmp
    have HSK := Lib.hid hsick
    have HW6 := Lib.hid hl2.base.size
    clear hmp hl2 hb2 hhd ho2 hhd2 hop hsick hD2l
    go_wp2_with fail
    refine HOP.out.mono ?_
    rintro e w7 ⟨s2, m2, rfl, hle, hst, hsz, hbs⟩
    have hgl := HM6.out.lt
    have hhe : Held w2 x s2 m2 2 0 F _ w7 := ⟨hle, hst, .inr (.inl rfl), .inr (.inr rfl), Nat.le_trans HW6.out hsz.2⟩
    have HHE := Lib.hid hhe
    have HO7 := Lib.hid (HO6.out.beside hbs (fun q hq => .inl (.inr hq)))
    have HM7 := Lib.hid (HM6.out.turned hbs (fun h9 => h9.2 (.inr rfl)))
    have hgm : ¬ g = m2 := by omega
    clear hle hst hsz hbs hhe
    go_wp2_with fail
    go_loopg [59] n (fun gk i' wr => ∃ i : Nat, i ≤ n ∧ gk = n - i ∧ i' = .int .i64 i ∧ Held w2 x s2 m2 2 0 F (fun q => ((also (fun _ => False) (.slice B1 n c1) q) ∨ q = g) ∨ q = s2 ∨ q = m2) wr ∧ OwnL wr w3.heap.size 9 1 (.slice B1 n c1) ((csL I1).map fun s => [.string s]) ∧ MapI wr g (hF H))
    case atStart => exact ⟨0, by omega, by omega, rfl, HHE.out, HO7.out, HM7.out⟩
    case round =>
      obtain ⟨i, hi, hgi, rfl, hh, hown, hmp⟩ := hrel
      have HGI := Lib.hid hgi
      have HH := Lib.hid hh
      have HOW := Lib.hid hown
      have HMP := Lib.hid hmp
      clear hgi hh hown hmp
      by_cases hlt : i < n
      · have hii : (i : Int) < (n : Int) := by omega
        obtain ⟨b, off, rfl, hbb, c0⟩ := str_at (own_at HOW.out) (k := i) (by rw [csL_len, HIN.out]; exact hlt)
        rw [csL_at I1 i (by rw [HIN.out]; exact hlt)] at c0
        obtain ⟨d, er, hrd, hcs⟩ := HSK.out.read 2 0 i (by rw [HIN.out]; exact hlt)
        have hFl : F.st.length = 131 + n := by rw [HSK.out.len, HIN.out]
        have HRD := Lib.hid (readS_any HH.out (by omega) (by rw [HSK.out.pend]; simp) (i : Int) (by unfold okI; omega) F d er hrd)
        have HCS := Lib.hid hcs
        obtain ⟨cs, hcsd⟩ : ∃ cs, I1.cs i = cs := ⟨_, rfl⟩
        rw [hcsd] at c0 HCS
        have HWR := Lib.hid hbb
        clear hrd hcs hFl hcsd
        go_wp2_with fail
        refine HRD.out.mono ?_
        rintro e w8 ⟨rfl, hdn⟩
        have HH8 := Lib.hid (HH.out.done hdn)
        have HO8 := Lib.hid (HOW.out.done HH.out.store hdn (fun q hq => .inl (.inl (.inr hq))))
        have hm8 := HMP.out.turned hdn.turned (fun h9 => h9.elim (fun h8 => h8.2 (.inl (.inr rfl))) hgm)
        have HM8 := Lib.hid hm8
        rcases HCS.out with ⟨her, hd⟩ | ⟨her, hH⟩
        · subst her
          subst hd
          have hself : (d.toList != d.toList) = false := by simp
          clear hdn hm8
          go_wp2_with fail
          go_roundg (n - (i + 1))
          case measure => rw [HGI.out]; omega
          case rel => exact ⟨i + 1, by omega, by omega, by go_num, HH8.out, HO8.out, HM8.out⟩
        · obtain ⟨q, hq⟩ : ∃ q : Nat, i / 32 = q := ⟨_, rfl⟩
          rw [hq] at hH
          have hqq : (i : Int) / 32 = (q : Int) := by omega
          have hqb : q ≤ 32 := by omega
          obtain ⟨kl1, hkl1⟩ := int_key (131 + (i : Int)) (by unfold okI; omega)
          obtain ⟨kl2, hkl2⟩ := int_key (1 + (q : Int)) (by unfold okI; omega)
          have hlk1 := hm8.lookup_val int_keyedI intV_inj Try.underlying61 (zero_bool4 _) (131 + (i : Int)) hkl1
          have hlk2 := hm8.lookup_val int_keyedI intV_inj Try.underlying61 (zero_bool4 _) (1 + (q : Int)) hkl2
          by_cases hin : 131 + i ∈ H
          · rw [show hF H (131 + (i : Int)) = some (.bool true) from hF_in hin, Option.getD_some] at hlk1
            have HX := Lib.hid hH
            clear hin hlk2 hdn hm8 hkl1 hkl2 hH
            rcases her with rfl | rfl
            all_goals
              go_wp2_with fail
              go_roundg (n - (i + 1))
              case measure => rw [HGI.out]; omega
              case rel => exact ⟨i + 1, by omega, by omega, by go_num, HH8.out, HO8.out, HM8.out⟩
          · rw [show hF H (131 + (i : Int)) = none from hF_out hin, Option.getD_none] at hlk1
            have h1k := hH.resolve_left hin
            rw [show hF H (1 + (q : Int)) = some (.bool true) from hF_in h1k, Option.getD_some] at hlk2
            clear hin hdn hm8 hkl1 hkl2 hH h1k
            rcases her with rfl | rfl
            all_goals
              go_wp2_with fail
              go_roundg (n - (i + 1))
              case measure => rw [HGI.out]; omega
              case rel => exact ⟨i + 1, by omega, by omega, by go_num, HH8.out, HO8.out, HM8.out⟩
      · obtain rfl : i = n := by omega
        have HG9 := Lib.hid (HG2.out.trans HH.out.live.base)
        go_wp2_with fail
        go_ret
        exact ⟨rfl, HG9.out⟩
end Go.Proofs.Ytbddelefglhaaaa
namespace Go.Proofs.Ytbddelefglhaaaa
set_option linter.unusedVariables false
set_option linter.unusedSimpArgs false
set_option linter.unusedSectionVars false
open Go.RowKit Go.ChangeShapes Go.WideShapes Go.ChangeAt Go.Deep
theorem wf_u16p {x : Int} (h : Lit.wf (.int .u16 x) = true) : 0 ≤ x ∧ x < 65536 := by
  simp only [Lit.wf, IntKind.min, IntKind.max, IntKind.signed, IntKind.bits] at h
  simp at h
  omega
theorem wf_u8p {x : Int} (h : Lit.wf (.int .u8 x) = true) : 0 ≤ x ∧ x < 256 := by
  simp only [Lit.wf, IntKind.min, IntKind.max, IntKind.signed, IntKind.bits] at h
  simp at h
  omega
section
variable {H : Type} {enc : TypeId × Value → H} {w : World}
set_option maxRecDepth 100000 in
theorem open_harmC {n : Nat} {cs : List Value} {y : DataW H × List MemPlace} (hlen : cs.length = 4) (h : DataW.trod enc Try.prog w 0 (fun _ => true) true n 122 cs = some y) : ∃ e : HarmD, e.ok ∧ cs = hC e := by
  have hf := struct_fields Try.underlying122 (by kernel_rfl) h
  obtain ⟨v0, _, _, e0, f0⟩ := hf 0 _ rfl (by omega)
  obtain ⟨v1, _, _, e1, f1⟩ := hf 1 _ rfl (by omega)
  obtain ⟨v2, _, _, e2, f2⟩ := hf 2 _ rfl (by omega)
  obtain ⟨v3, _, _, e3, f3⟩ := hf 3 _ rfl (by omega)
  obtain ⟨n0, hn0, _, w0⟩ := DataW.trod_int Try.underlying120 f0
  obtain ⟨n1, hn1, _, w1⟩ := DataW.trod_int Try.underlying120 f1
  obtain ⟨n2, hn2, _, w2⟩ := DataW.trod_int Try.underlying5 f2
  obtain ⟨n3, hn3, _, w3⟩ := DataW.trod_int Try.underlying5 f3
  injection hn0 with hn0 _
  injection hn1 with hn1 _
  injection hn2 with hn2 _
  injection hn3 with hn3 _
  subst hn0; subst hn1; subst hn2; subst hn3
  have b0 := wf_u16p w0
  have b1 := wf_u16p w1
  have b2 := wf_u8p w2
  have b3 := wf_u8p w3
  refine ⟨⟨n0.toNat, n1.toNat, n2.toNat, n3.toNat⟩, ⟨by show n0.toNat < _; omega, by show n1.toNat < _; omega, by show n2.toNat < _; omega, by show n3.toNat < _; omega⟩, ?_⟩
  match cs, hlen with
  | [x0, x1, x2, x3], _ =>
    simp at e0 e1 e2 e3
    rw [e0, e1, e2, e3]
    unfold hC
    simp only []
    rw [show ((n0.toNat : Nat) : Int) = n0 from by omega, show ((n1.toNat : Nat) : Int) = n1 from by omega, show ((n2.toNat : Nat) : Int) = n2 from by omega, show ((n3.toNat : Nat) : Int) = n3 from by omega]
set_option maxRecDepth 100000 in
theorem open_harms {r : Reach} {b0 : Nat} {v : Value} {d : DataW H} {ps : List MemPlace} (hv : Value.okWide Try.prog w r b0 59 v) (hd : DataW.Trod enc Try.prog w 0 (fun _ => true) true 59 v d ps) :
    ∃ A c, ∃ l : List HarmD, v = .slice A l.length c ∧ l.length ≤ c ∧ c ≤ 9223372036854775807 ∧ HarmsAt w w.heap.size A l := by
  obtain ⟨A, c, l, rfl, h1, h2, h3, h4⟩ := open_list (α := HarmD) (sz := 4) Try.underlying59 (by kernel_rfl) (by omega) hC HarmD.ok (fun n cs y hlen h => open_harmC hlen h) hv hd
  exact ⟨A, c, l, rfl, h1, h2, h3, h4⟩
end
end Go.Proofs.Ytbddelefglhaaaa
