/- Chapter 8: ContentsKeeps. -/
import Derived.Test.YtnlaogneceanoaaCkH
import Derived.Test.YtnlaogneceanoaaCkK
import Derived.Test.YtnlaogneceanoaaCkL
namespace Go.Proofs.Ytnlaogneceanoaa
set_option linter.unusedVariables false
set_option linter.unusedSimpArgs false
set_option linter.unusedSectionVars false
open Go.RowKit
attribute [local go_sem ↓] Go.wp_at_zero Go.wp_at_succ
theorem good_small {T : Tab} (h : GoodT T) : SmallT T := ⟨by have := h.small.1; omega, fun l hl => by have := (h.small.2 l hl).1; omega⟩
theorem new_good (s : ByteArray) (t : Int) (ho : okT t = true) (hn : nameOk s = true) : ∃ T, newT s t = (T, 0) ∧ GoodT T := by
  refine ⟨_, by unfold newT; rw [if_pos ⟨ho, hn⟩], ho, hn, ?_, ?_, ?_, ?_⟩
  · rw [List.length_replicate]; exact (slots_nat t).1
  · intro l hl
    exact .inl (by rw [(List.mem_replicate.1 hl).2]; exact (emL_iff _).2 rfl)
  · have : keysL (List.replicate (slotsS t).toNat labZ) = [] := by
      unfold keysL
      rw [List.filter_eq_nil_iff.2 (fun l hl => by rw [(List.mem_replicate.1 hl).2, (emL_iff labZ).2 rfl]; decide)]
      rfl
    show (keysL _).Nodup
    rw [this]
    exact List.nodup_nil
  · have : extsL (List.replicate (slotsS t).toNat labZ) = [] := by
      unfold extsL
      rw [List.flatMap_eq_nil_iff]
      intro l hl
      rw [(List.mem_replicate.1 hl).2]
      rfl
    show (seqS (extsL _)).Nodup
    rw [this]
    exact List.nodup_nil
theorem nid0 (a : Int) (h : a ≠ 0) : (a != 0) = true := by rw [bne_iff_ne]; exact h
theorem free_okrun (T : Tab) : ∀ r ∈ freeT T, okRun r := by
  intro r hr
  unfold freeT at hr
  split at hr
  · unfold freeS ints at hr
    obtain ⟨x, hx, rfl⟩ := List.mem_map.1 hr
    have := normS_bd _ x hx
    unfold okRun
    simp only
    omega
  · cases hr
theorem free_cell (T : Tab) (k : Nat) (hk : k ≤ T.labels.length) (h : GoodT T) : (freeT T ++ extsL (T.labels.take k)).length ≤ 128 + 16 * k := by
  rw [List.length_append]
  have h1 := freeT_len T
  have h2 := extsL_len (T.labels.take k) 16 (fun l hl => (h.small.2 l (List.mem_of_mem_take hl)).1)
  rw [List.length_take] at h2
  omega
set_option maxRecDepth 100000 in
set_option maxHeartbeats 32000000 in
theorem contentsKeeps_any (tr : Nat) (htr : tr < 256) (A : Option Addr) (c : Nat) (xs : List OprE) (w : World) (hx : OprsAt w A xs) (hl : xs.length ≤ 9223372036854775807) :
    Calls Try.prog 5 #[.int .u8 (tr : Int), .slice A xs.length c] w fun e w' => e = .returned (.bool true) ∧ Grew w w' := by
  have HX := Lib.hid (fun w1 (g : Grew w w1) => hx.hold g)
  have HSM := Lib.hid (fun w1 (g : Grew w w1) => small_any A c xs 12 (by omega) w1 (hx.hold g) hl)
  have HG0 := Lib.hid (Grew.refl w)
  clear hx
  cases hs : smallL xs 12 with
  | false =>
    have HS := Lib.hid hs
    clear hs
    go_enter Try.func5, Try.ntmps5
    go_wp2_with fail
    refine (awake_con _).mono ?_
    rintro e w1 ⟨rfl, g1⟩
    go_wp2_with fail
    refine (HSM.out _ g1).mono ?_
    rintro e w2 ⟨rfl, rfl⟩
    rw [HS.out]
    go_wp2_with fail
    refine (awake_con _).mono ?_
    rintro e w3 ⟨rfl, g3⟩
    go_wp2_with fail
    go_ret
    exact ⟨rfl, g1.trans g3⟩
  | true =>
  obtain ⟨hl12, hx20⟩ := smallL_facts xs 12 hs
  have HS := Lib.hid hs
  have HX20 := Lib.hid hx20
  clear hs hx20
  obtain ⟨nt, hnt⟩ : ∃ nt : Int, 4 + (tr : Int) % 61 = nt := ⟨_, rfl⟩
  have hnt4 : 4 ≤ nt ∧ nt ≤ 64 := by omega
  have HNT := Lib.hid hnt
  obtain ⟨T0, hT0, hgd0⟩ := new_good ⟨#[86]⟩ nt (by unfold okT; exact decide_eq_true (by omega)) (by decide +kernel)
  have HT0 := Lib.hid hT0
  have HGD0 := Lib.hid hgd0
  have HV0 := Lib.hid ((validT_iff T0).2 hgd0)
  clear hnt hT0 hgd0
  have htr1 : 0 ≤ (tr : Int) ∧ (tr : Int) ≤ 255 := by omega
  go_enter Try.func5, Try.ntmps5
  go_wp2_with fail
  refine (awake_con _).mono ?_
  rintro e w1 ⟨rfl, g1⟩
  have HG1 := Lib.hid (HG0.out.trans g1)
  clear g1
  go_wp2_with fail
  refine (HSM.out _ HG1.out).mono ?_
  rintro e w2 ⟨rfl, rfl⟩
  rw [HS.out]
  go_wp2_with fail
  rw [HNT.out]
  refine (new_tab ⟨#[86]⟩ nt _ (by decide) (by omega) (by omega) T0 0 HT0.out).mono ?_
  rintro e w3 ⟨A1, c1, ys1, rfl, ht1, g3⟩
  have HG2 := Lib.hid (HG1.out.trans g3)
  clear g3
  have HY0 := Lib.hid (ht1)
  clear ht1
  have gal : Grew w3 (w3.alloc (.cells #[.string T0.name, .int .i64 T0.tracks, .slice A1 T0.labels.length c1] 34)) := (Grew.refl w3).alloc _
  have HG3 := Lib.hid (HG2.out.trans gal)
  have HY1 := Lib.hid (HY0.out.hold gal)
  have HB0 := Lib.hid (Blk.new w3 34 #[.string T0.name, .int .i64 T0.tracks, .slice A1 T0.labels.length c1] rfl)
  clear gal
  have bc0 := HB0.out.cell 0
  have bc1 := HB0.out.cell 1
  have bc2 := HB0.out.cell 2
  have bl := HB0.out.lt
  obtain ⟨g5, hg5⟩ : ∃ g5, g5 = w3.heap.size := ⟨_, rfl⟩
  have HG5W := Lib.hid (show w.heap.size ≤ g5 from by rw [hg5]; exact HG2.out.size)
  go_wp2_with fail
  refine (valid_tab A1 c1 ys1 T0 _ HY1.out (good_small HGD0.out) _ rfl).mono ?_
  rintro e w4 ⟨rfl, g4⟩
  have HG4 := Lib.hid (HG3.out.trans g4)
  have HY2 := Lib.hid (HY1.out.hold g4)
  have HB1 := Lib.hid (HB0.out.grew g4)
  clear bc0 bc1 bc2 bl g4
  rw [HV0.out]
  have HB2 := Lib.hid ((by rw [hg5]; exact HB1.out : Blk w4 g5 34 #[.string T0.name, .int .i64 T0.tracks, .slice A1 T0.labels.length c1]))
  rw [← hg5]
  clear hg5
  go_wp2_with fail
  go_loopg [41] xs.length (fun gk i wr => ∃ (k : Nat) (T : Tab) (A2 : Option Addr) (c2 : Nat) (ys : List LabE), k ≤ xs.length ∧ gk = xs.length - k ∧ i = .int .i64 k ∧ GoodT T ∧ TabAt wr A2 c2 ys T ∧ Blk wr g5 34 #[.string T.name, .int .i64 T.tracks, .slice A2 T.labels.length c2] ∧ Grew w wr)
  case atStart => exact ⟨0, T0, A1, c1, ys1, by omega, by omega, rfl, HGD0.out, HY2.out, HB2.out, HG4.out⟩
  case round =>
    obtain ⟨k, T, A2, c2, ys, hk, hgk, rfl, hgd, htb, hbb, hg⟩ := hrel
    have HGK := Lib.hid hgk
    have HGD := Lib.hid hgd
    have hg5l := hg
    clear hgk
    have HT0 := Lib.hid (htb)
    have HB0 := Lib.hid (hbb)
    have HG0 := Lib.hid (hg)
    clear htb hbb hg hg5l hgd
    by_cases hlt : k < xs.length
    · obtain ⟨b, off, rfl, hbl, hop, hc⟩ := (HX.out _ HG0.out).at_ hlt
      have x0 : wr.cell? ⟨b, off + k * 7, none⟩ = _ := hc 0 _ rfl
      have x1 := hc 1 _ rfl
      have x2 := hc 2 _ rfl
      have x3 := hc 3 _ rfl
      have x4 := hc 4 _ rfl
      have x5 := hc 5 _ rfl
      have x6 := hc 6 _ rfl
      have hxl := HX20.out xs[k] (List.getElem_mem hlt)
      clear hc
      obtain ⟨⟨B, d, o⟩, ho⟩ : ∃ x, xs[k] = x := ⟨_, rfl⟩
      rw [ho] at x0 x1 x2 x3 x4 x5 x6 hop hxl
      simp only [] at x0 x1 x2 x3 x4 x5 x6 hop hxl
      clear ho
      have HOP0 := Lib.hid (fun w1 (g : Grew wr w1) => hop.hold g)
      clear hop
      have HWR := Lib.hid (Grew.refl wr)
      have HR0 := HWR
      have gal : Grew wr (wr.alloc (.cells #[.int .u8 (o.kind : Int), .int .i64 o.id, .int .i64 o.unit, .string o.name, .string o.note, .int .i64 o.n, .slice B o.ext.length d] 52)) := (Grew.refl wr).alloc _
      have HT1 := Lib.hid (HT0.out.hold gal)
      have HB1 := Lib.hid (HB0.out.grew gal)
      have HG1 := Lib.hid (HG0.out.trans gal)
      have HR1 := Lib.hid (HR0.out.trans gal)
      have HO0 := Lib.hid (Blk.new wr 52 #[.int .u8 (o.kind : Int), .int .i64 o.id, .int .i64 o.unit, .string o.name, .string o.note, .int .i64 o.n, .slice B o.ext.length d] rfl)
      clear gal
      have bc0 := HB1.out.cell 0
      have bc1 := HB1.out.cell 1
      have bc2 := HB1.out.cell 2
      have bl := HB1.out.lt
      have oc0 := HO0.out.cell 0
      have oc1 := HO0.out.cell 1
      have oc2 := HO0.out.cell 2
      have oc3 := HO0.out.cell 3
      have oc4 := HO0.out.cell 4
      have oc5 := HO0.out.cell 5
      have oc6 := HO0.out.cell 6
      have ol := HO0.out.lt
      obtain ⟨⟨U, er⟩, hdo⟩ : ∃ p, doT T o.id o.unit o.name o.note o.n o.ext ((o.kind : Int) % 7) = p := ⟨_, rfl⟩
      have HDO := Lib.hid hdo
      have HOPC := HOP0.out _ HR1.out
      have HOPH := Lib.hid HOPC
      clear hdo HOPC
      go_wp2_with fail
      refine (do_tab A2 c2 ys T o.id o.unit _ B d o.kind o.name o.note o.n o.ext HT1.out (good_small HGD.out) HOPH.out.kind HOPH.out.name HOPH.out.note HOPH.out.n0 HOPH.out.n1 HOPH.out.runs (by omega) U er HDO.out).mono ?_
      rintro e w11 ⟨A3, c3, zs, rfl, ht3, g11⟩
      have HT2 := Lib.hid (HT1.out.hold g11)
      have HB2 := Lib.hid (HB1.out.grew g11)
      have HG2 := Lib.hid (HG1.out.trans g11)
      have HR2 := Lib.hid (HR1.out.trans g11)
      have HO1 := Lib.hid (HO0.out.grew g11)
      clear x0 x1 x2 x3 x4 x5 x6 hbl bc0 bc1 bc2 bl oc0 oc1 oc2 oc3 oc4 oc5 oc6 ol g11
      have HU0 := Lib.hid (ht3)
      clear ht3
      have gal : Grew w11 (w11.alloc (.cells #[.string U.name, .int .i64 U.tracks, .slice A3 U.labels.length c3] 34)) := (Grew.refl w11).alloc _
      have HT3 := Lib.hid (HT2.out.hold gal)
      have HB3 := Lib.hid (HB2.out.grew gal)
      have HG3 := Lib.hid (HG2.out.trans gal)
      have HR3 := Lib.hid (HR2.out.trans gal)
      have HO2 := Lib.hid (HO1.out.grew gal)
      have HU1 := Lib.hid (HU0.out.hold gal)
      have HV0 := Lib.hid (Blk.new w11 34 #[.string U.name, .int .i64 U.tracks, .slice A3 U.labels.length c3] rfl)
      clear gal
      by_cases her : er = 0
      rotate_left
      · have hne := nid0 er her
        have hUz := do_err T U o.id o.unit o.name o.note o.n o.ext _ er HDO.out her
        have hul : U.labels.length = 0 := by rw [hUz]; rfl
        have hu2 : (U.tracks != 0) = false := by rw [hUz]; decide
        rw [hul] at HT3 HB3 HG3 HV0 ⊢
        clear hUz her hul
        have vc0 := HV0.out.cell 0
        have vc1 := HV0.out.cell 1
        have vc2 := HV0.out.cell 2
        have vl := HV0.out.lt
        go_wp2_with fail
        go_roundg (xs.length - (k + 1))
        case measure => rw [HGK.out]; omega
        case rel => exact ⟨k + 1, T, A2, c2, ys, by omega, by omega, by go_num, HGD.out, HT3.out, HB3.out, HG3.out⟩
      subst her
      have hke := do_keeps T U o.id o.unit o.name o.note o.n o.ext _ HDO.out
      have hnm := hke.name
      have htk := hke.tracks
      have hln := hke.len
      have HKE := Lib.hid hke
      have HVU := Lib.hid ((validT_iff U).2 hke.good)
      have hn3 : U.name.toList = T.name.toList := by rw [hnm]
      have ht1 : (U.tracks != T.tracks) = false := by rw [htk]; simp
      have hl1 : ((U.labels.length : Int) != (T.labels.length : Int)) = false := by rw [hln]; simp
      have HPT := Lib.hid (part_facts U hke.good)
      have HLN := Lib.hid hln
      have hu31 := hke.good.small.1
      clear hke hnm htk hln
      have vc0 := HV0.out.cell 0
      have vc1 := HV0.out.cell 1
      have vc2 := HV0.out.cell 2
      have vl := HV0.out.lt
      have bc0 := HB3.out.cell 0
      have bc1 := HB3.out.cell 1
      have bc2 := HB3.out.cell 2
      have bl := HB3.out.lt
      go_wp2_with fail
      refine (valid_tab A3 c3 zs U _ HU1.out (good_small HKE.out.good) _ rfl).mono ?_
      rintro e w12 ⟨rfl, g12⟩
      have HT4 := Lib.hid (HT3.out.hold g12)
      have HB4 := Lib.hid (HB3.out.grew g12)
      have HG4 := Lib.hid (HG3.out.trans g12)
      have HR4 := Lib.hid (HR3.out.trans g12)
      have HO3 := Lib.hid (HO2.out.grew g12)
      have HU2 := Lib.hid (HU1.out.hold g12)
      have HV1 := Lib.hid (HV0.out.grew g12)
      clear vc0 vc1 vc2 vl bc0 bc1 bc2 bl g12
      rw [HVU.out]
      have vc0 := HV1.out.cell 0
      have vc1 := HV1.out.cell 1
      have vc2 := HV1.out.cell 2
      have vl := HV1.out.lt
      have bc0 := HB4.out.cell 0
      have bc1 := HB4.out.cell 1
      have bc2 := HB4.out.cell 2
      have bl := HB4.out.lt
      go_wp2_with fail
      clear hn3 ht1 hl1
      refine (free_tabO A3 c3 zs U _ HU2.out (good_small HKE.out.good) _ rfl (freeT U) rfl).mono ?_
      rintro e wf ⟨v0, rfl, hown, gf⟩
      clear vc0 vc1 vc2 vl bc0 bc1 bc2 bl
      obtain ⟨gV, hgV⟩ : ∃ g, g = w11.heap.size := ⟨_, rfl⟩
      obtain ⟨gO, hgO⟩ : ∃ g, g = wr.heap.size := ⟨_, rfl⟩
      have HV := Lib.hid (show Blk w12 gV 34 #[.string U.name, .int .i64 U.tracks, .slice A3 U.labels.length c3] from by rw [hgV]; exact HV1.out)
      have HO := Lib.hid (show Blk w12 gO 52 #[.int .u8 (o.kind : Int), .int .i64 o.id, .int .i64 o.unit, .string o.name, .string o.note, .int .i64 o.n, .slice B o.ext.length d] from by rw [hgO]; exact HO3.out)
      rw [← hgV, ← hgO]
      clear hgV hgO
      have HCW := Lib.hid (show ∀ j, cntD (U.labels.take j) (T.labels.take j) ≤ j from fun j => by unfold cntD; refine Nat.le_trans List.countP_le_length ?_; rw [List.length_zip, List.length_take]; omega)
      have v2 := (HV.out.grew gf).cell 2
      have vl := (HV.out.grew gf).lt
      go_wp2_with fail
      obtain ⟨wo, hwo⟩ : ∃ wo : World, wo = wr := ⟨_, rfl⟩
      subst hwo
      go_loopg [11, 12, 93] U.labels.length (fun gk v11 v12 v93 wq => ∃ (j cd : Nat) (va : Value), va = v12 ∧ j ≤ U.labels.length ∧ gk = U.labels.length - j ∧ v93 = .int .i64 j ∧ v11 = .int .i64 cd ∧ cntD (U.labels.take j) (T.labels.take j) = cd ∧ OwnL wq w12.heap.size 58 2 va ((freeT U ++ extsL (U.labels.take j)).map runC) ∧ Grew w12 wq)
      case atStart => exact ⟨0, 0, _, rfl, by omega, by omega, rfl, rfl, rfl, by simpa [extsL] using hown, gf⟩
      case round =>
        obtain ⟨wq, hwq⟩ : ∃ wq : World, wq = wr := ⟨_, rfl⟩
        subst hwq
        obtain ⟨j, cd, va, hva, hj, hgk2, rfl, rfl, hcd, hown2, hgq⟩ := hrel
        subst hva
        have HGK2 := Lib.hid hgk2
        have HCD := Lib.hid hcd
        have hcdj : cd ≤ j := by rw [← hcd]; exact HCW.out j
        clear hgk2 hcd hown v2 vl gf
        have v2 := (HV.out.grew hgq).cell 2
        have vl := (HV.out.grew hgq).lt
        by_cases hjl : j < U.labels.length
        · have hjt : j < T.labels.length := by have := HLN.out; omega
          obtain ⟨b3, off3, B3, d3, l, rfl, hbl3, hxk3, hv3, hla3, c0, c1, c2', c3', c4⟩ := HU2.out.at_ hjl
          obtain ⟨b2, off2, B2, d2, m, rfl, hbl2, hxk2, hv2, hla2, m0, m1, m2, m3, m4⟩ := HT4.out.at_ hjt
          have hle3 := (good_small HKE.out.good).ext U.labels[j] (List.getElem_mem hjl)
          have hle2 := (good_small HGD.out).ext T.labels[j] (List.getElem_mem hjt)
          have hle16 := (HKE.out.good.small.2 U.labels[j] (List.getElem_mem hjl)).1
          rw [hv3] at hle3 hle16
          rw [hv2] at hle2
          have HES := Lib.hid (show extsL (U.labels.take (j + 1)) = extsL (U.labels.take j) ++ l.ext from by rw [extsL_snoc U.labels j hjl, hv3])
          have HCS := Lib.hid (show cntD (U.labels.take (j + 1)) (T.labels.take (j + 1)) = cd + if eqL l m = true then 0 else 1 from by rw [cntD_snoc _ _ _ hjl hjt, HCD.out, hv3, hv2])
          have hfc := free_cell U j (by omega) HKE.out.good
          have hgV1 : gV < w12.heap.size := HV.out.lt
          have hg51 : g5 < w12.heap.size := HB4.out.lt
          have HSG := Lib.hid (show ∀ w1 : World, Grew w12 w1 → (fun w9 : World => w9.cell? ⟨gV, 2, none⟩ = some (.slice (some ⟨b3, off3, none⟩) U.labels.length c3) ∧ w9.cell? ⟨g5, 2, none⟩ = some (.slice (some ⟨b2, off2, none⟩) T.labels.length c2) ∧ w9.cell? ⟨b3, off3 + j * 5, none⟩ = some (.int .i64 l.id) ∧ w9.cell? ⟨b3, off3 + j * 5 + 1, none⟩ = some (.int .i64 l.unit) ∧ w9.cell? ⟨b3, off3 + j * 5 + 2, none⟩ = some (.string l.name) ∧ w9.cell? ⟨b3, off3 + j * 5 + 3, none⟩ = some (.string l.note) ∧ w9.cell? ⟨b3, off3 + j * 5 + 4, none⟩ = some (.slice B3 l.ext.length d3) ∧ w9.cell? ⟨b2, off2 + j * 5, none⟩ = some (.int .i64 m.id) ∧ w9.cell? ⟨b2, off2 + j * 5 + 1, none⟩ = some (.int .i64 m.unit) ∧ w9.cell? ⟨b2, off2 + j * 5 + 2, none⟩ = some (.string m.name) ∧ w9.cell? ⟨b2, off2 + j * 5 + 3, none⟩ = some (.string m.note) ∧ w9.cell? ⟨b2, off2 + j * 5 + 4, none⟩ = some (.slice B2 m.ext.length d2)) w1 from fun w1 g1 => by
            have e1 := fun o => g1.cellEq gV o hgV1
            have e2 := fun o => g1.cellEq g5 o hg51
            have e3 := fun o => g1.cellEq b3 o hbl3
            have e4 := fun o => g1.cellEq b2 o hbl2
            simp only [e1, e2, e3, e4]
            exact ⟨HV.out.cell 2, HB4.out.cell 2, c0, c1, c2', c3', c4, m0, m1, m2, m3, m4⟩)
          have HL3 := Lib.hid hla3
          have HL2 := Lib.hid hla2
          have q4 := (hgq.cellEq b3 (off3 + j * 5 + 4) hbl3).trans c4
          have hbq : b3 < wq.heap.size := by have := hgq.size; omega
          have hr2 := (hla3.hold hgq).runs.2
          have hge := hown2.row_ge
          clear hv3 hv2 hxk3 hxk2 hla3 hla2 c0 c1 c2' c3' c4 m0 m1 m2 m3 m4 hgV1 hg51
          go_wp2_with (at_builtin; refine wpList_pushAll (by rfl) _ _ 22 rfl w12.heap.size 58 2 16 _ Try.underlying22 info_run rfl (by decide) _ _ (l.ext.map runC) (by rfl) hown2 B3 l.ext.length _ (by rfl) (by rw [List.length_map]) (map_one_len _) hr2 (map_one_one _) (by rw [List.length_map]; omega) (by rw [List.length_map]; omega) (by have := hgq.size; omega) ?_; intro v5 w5 hown5 hgr5 hat5)
          have hg5w := hgq.own hgr5 hge (Nat.le_refl _)
          have HOW5 := Lib.hid (show OwnL w5 w12.heap.size 58 2 v5 ((freeT U ++ extsL (U.labels.take (j + 1))).map runC) from by rw [HES.out, ← List.append_assoc, List.map_append]; exact hown5)
          have HG5 := Lib.hid hg5w
          have HC := Lib.hid (requal_any B3 B2 d3 d2 l m w5.drew (HL3.out.hold hg5w.drew) (HL2.out.hold hg5w.drew) (by omega) (by omega))
          have hS : (fun w9 : World => w9.cell? ⟨gV, 2, none⟩ = some (.slice (some ⟨b3, off3, none⟩) U.labels.length c3) ∧ w9.cell? ⟨g5, 2, none⟩ = some (.slice (some ⟨b2, off2, none⟩) T.labels.length c2) ∧ w9.cell? ⟨b3, off3 + j * 5, none⟩ = some (.int .i64 l.id) ∧ w9.cell? ⟨b3, off3 + j * 5 + 1, none⟩ = some (.int .i64 l.unit) ∧ w9.cell? ⟨b3, off3 + j * 5 + 2, none⟩ = some (.string l.name) ∧ w9.cell? ⟨b3, off3 + j * 5 + 3, none⟩ = some (.string l.note) ∧ w9.cell? ⟨b3, off3 + j * 5 + 4, none⟩ = some (.slice B3 l.ext.length d3) ∧ w9.cell? ⟨b2, off2 + j * 5, none⟩ = some (.int .i64 m.id) ∧ w9.cell? ⟨b2, off2 + j * 5 + 1, none⟩ = some (.int .i64 m.unit) ∧ w9.cell? ⟨b2, off2 + j * 5 + 2, none⟩ = some (.string m.name) ∧ w9.cell? ⟨b2, off2 + j * 5 + 3, none⟩ = some (.string m.note) ∧ w9.cell? ⟨b2, off2 + j * 5 + 4, none⟩ = some (.slice B2 m.ext.length d2)) w5.drew := HSG.out _ hg5w.drew
          clear hown5 hgr5 hat5 hown2 hgq v2 vl q4 hbq hr2 hge hg5w
          go_wp2_with fail
          refine wp_region_R [] (fun w9 : World => w9.cell? ⟨gV, 2, none⟩ = some (.slice (some ⟨b3, off3, none⟩) U.labels.length c3) ∧ w9.cell? ⟨g5, 2, none⟩ = some (.slice (some ⟨b2, off2, none⟩) T.labels.length c2) ∧ w9.cell? ⟨b3, off3 + j * 5, none⟩ = some (.int .i64 l.id) ∧ w9.cell? ⟨b3, off3 + j * 5 + 1, none⟩ = some (.int .i64 l.unit) ∧ w9.cell? ⟨b3, off3 + j * 5 + 2, none⟩ = some (.string l.name) ∧ w9.cell? ⟨b3, off3 + j * 5 + 3, none⟩ = some (.string l.note) ∧ w9.cell? ⟨b3, off3 + j * 5 + 4, none⟩ = some (.slice B3 l.ext.length d3) ∧ w9.cell? ⟨b2, off2 + j * 5, none⟩ = some (.int .i64 m.id) ∧ w9.cell? ⟨b2, off2 + j * 5 + 1, none⟩ = some (.int .i64 m.unit) ∧ w9.cell? ⟨b2, off2 + j * 5 + 2, none⟩ = some (.string m.name) ∧ w9.cell? ⟨b2, off2 + j * 5 + 3, none⟩ = some (.string m.note) ∧ w9.cell? ⟨b2, off2 + j * 5 + 4, none⟩ = some (.slice B2 m.ext.length d2)) (by kernel_rfl) ?_
          refine wpAnyR_takeQ (i := 0) (v := ?_) (some 104) rfl rfl (by kernel_rfl) (by kernel_rfl) (by kernel_rfl) (by kernel_rfl) (fun _ _ _ h => h) (Or.inl ⟨by rfl, ?_⟩) ?_
          rotate_left
          focus (intro wS hSw; (try dsimp only at hSw); go_simp; (try with_reducible rfl); (try (first | (rw [if_pos (by omega)]; (try go_simp); (try with_reducible rfl)) | (rw [if_neg (by omega)]; (try go_simp); (try with_reducible rfl)))))
          try simp only [Act.put, zA, zB, zC]
          refine wpAnyR_take (i := 1) (v := ?_) [3, 4, 10, 11] (some 105) rfl rfl (by kernel_rfl) (by kernel_rfl) (by kernel_rfl) (by kernel_rfl) (by kernel_rfl) (by kernel_rfl) (by kernel_rfl) (fun _ _ _ h => h) (Or.inl ⟨by rfl, ?_⟩) hS ?_
          rotate_left
          focus (intro wS hSw; (try dsimp only at hSw); go_simp; (try with_reducible rfl); (try (first | (rw [if_pos (by omega)]; (try go_simp); (try with_reducible rfl)) | (rw [if_neg (by omega)]; (try go_simp); (try with_reducible rfl)))))
          try simp only [Act.put, zA, zB, zC]
          refine wpAnyR_takeQ (i := 2) (v := ?_) (some 106) rfl rfl (by kernel_rfl) (by kernel_rfl) (by kernel_rfl) (by kernel_rfl) (fun _ _ _ h => h) (Or.inl ⟨by rfl, ?_⟩) ?_
          rotate_left
          focus (intro wS hSw; (try dsimp only at hSw); go_simp; (try with_reducible rfl); (try (first | (rw [if_pos (by omega)]; (try go_simp); (try with_reducible rfl)) | (rw [if_neg (by omega)]; (try go_simp); (try with_reducible rfl)))))
          try simp only [Act.put, zA, zB, zC]
          refine wpAnyR_takeQ (i := 3) (v := ?_) (some 107) rfl rfl (by kernel_rfl) (by kernel_rfl) (by kernel_rfl) (by kernel_rfl) (fun _ _ _ h => h) (Or.inl ⟨by rfl, ?_⟩) ?_
          rotate_left
          focus (intro wS hSw; (try dsimp only at hSw); go_simp; (try with_reducible rfl); (try (first | (rw [if_pos (by omega)]; (try go_simp); (try with_reducible rfl)) | (rw [if_neg (by omega)]; (try go_simp); (try with_reducible rfl)))))
          try simp only [Act.put, zA, zB, zC]
          refine wpAnyR_take (i := 4) (v := ?_) [10, 11] (some 108) rfl rfl (by kernel_rfl) (by kernel_rfl) (by kernel_rfl) (by kernel_rfl) (by kernel_rfl) (by kernel_rfl) (by kernel_rfl) (fun _ _ _ h => h) (Or.inl ⟨by rfl, ?_⟩) hS ?_
          rotate_left
          focus (intro wS hSw; (try dsimp only at hSw); go_simp; (try with_reducible rfl); (try (first | (rw [if_pos (by omega)]; (try go_simp); (try with_reducible rfl)) | (rw [if_neg (by omega)]; (try go_simp); (try with_reducible rfl)))))
          try simp only [Act.put, zA, zB, zC]
          refine wpAnyR_takeQ (i := 5) (v := ?_) (some 109) rfl rfl (by kernel_rfl) (by kernel_rfl) (by kernel_rfl) (by kernel_rfl) (fun _ _ _ h => h) (Or.inl ⟨by rfl, ?_⟩) ?_
          rotate_left
          focus (intro wS hSw; (try dsimp only at hSw); go_simp; (try with_reducible rfl); (try (first | (rw [if_pos (by omega)]; (try go_simp); (try with_reducible rfl)) | (rw [if_neg (by omega)]; (try go_simp); (try with_reducible rfl)))))
          try simp only [Act.put, zA, zB, zC]
          refine wpAnyR_take (i := 6) (v := ?_) [8, 9, 10, 11] (some 110) rfl rfl (by kernel_rfl) (by kernel_rfl) (by kernel_rfl) (by kernel_rfl) (by kernel_rfl) (by kernel_rfl) (by kernel_rfl) (fun _ _ _ h => h) (Or.inl ⟨by rfl, ?_⟩) hS ?_
          rotate_left
          focus (intro wS hSw; (try dsimp only at hSw); go_simp; (try with_reducible rfl); (try (first | (rw [if_pos (by omega)]; (try go_simp); (try with_reducible rfl)) | (rw [if_neg (by omega)]; (try go_simp); (try with_reducible rfl)))))
          try simp only [Act.put, zA, zB, zC]
          refine wpAnyR_takeQ (i := 7) (v := ?_) (some 111) rfl rfl (by kernel_rfl) (by kernel_rfl) (by kernel_rfl) (by kernel_rfl) (fun _ _ _ h => h) (Or.inl ⟨by rfl, ?_⟩) ?_
          rotate_left
          focus (intro wS hSw; (try dsimp only at hSw); go_simp; (try with_reducible rfl); (try (first | (rw [if_pos (by omega)]; (try go_simp); (try with_reducible rfl)) | (rw [if_neg (by omega)]; (try go_simp); (try with_reducible rfl)))))
          try simp only [Act.put, zA, zB, zC]
          refine wpAnyR_takeQ (i := 8) (v := ?_) (some 112) rfl rfl (by kernel_rfl) (by kernel_rfl) (by kernel_rfl) (by kernel_rfl) (fun _ _ _ h => h) (Or.inl ⟨by rfl, ?_⟩) ?_
          rotate_left
          focus (intro wS hSw; (try dsimp only at hSw); go_simp; (try with_reducible rfl); (try (first | (rw [if_pos (by omega)]; (try go_simp); (try with_reducible rfl)) | (rw [if_neg (by omega)]; (try go_simp); (try with_reducible rfl)))))
          try simp only [Act.put, zA, zB, zC]
          refine wpAnyR_take (i := 9) (v := ?_) [10, 11] (some 113) rfl rfl (by kernel_rfl) (by kernel_rfl) (by kernel_rfl) (by kernel_rfl) (by kernel_rfl) (by kernel_rfl) (by kernel_rfl) (fun _ _ _ h => h) (Or.inl ⟨by rfl, ?_⟩) hS ?_
          rotate_left
          focus (intro wS hSw; (try dsimp only at hSw); go_simp; (try with_reducible rfl); (try (first | (rw [if_pos (by omega)]; (try go_simp); (try with_reducible rfl)) | (rw [if_neg (by omega)]; (try go_simp); (try with_reducible rfl)))))
          try simp only [Act.put, zA, zB, zC]
          refine wpAnyR_n1 (i := 10) rfl (by kernel_rfl) ?_
          intro K' hK
          rw [if_pos (by rfl)]
          simp only [List.getElem_toArray, List.getElem_cons_succ, List.getElem_cons_zero]
          go_wp2_with fail
          refine HC.out.mono ?_
          rintro e w6 ⟨rfl, g6⟩
          have HG6 := Lib.hid (HG5.out.drew.trans g6)
          have HG56 := Lib.hid ((Grew.refl w5).drew.trans g6)
          cases he : eqL l m with
          | false =>
            have HN := Lib.hid (show cntD (U.labels.take (j + 1)) (T.labels.take (j + 1)) = cd + 1 from by rw [HCS.out, he]; rfl)
            clear he
            go_wp2_with fail
            refine hK.out _ _ (.inr (fun _ => HSG.out _ HG6.out)) ?_
            clear hK
            refine wpAnyR_takeQ (i := 11) (v := ?_) (some 115) rfl rfl (by kernel_rfl) (by kernel_rfl) (by kernel_rfl) (by kernel_rfl) (fun _ _ _ h => h) (Or.inl ⟨by rfl, ?_⟩) ?_
            rotate_left
            focus (intro wS hSw; (try dsimp only at hSw); go_simp; (try with_reducible rfl); (try (first | (rw [if_pos (by omega)]; (try go_simp); (try with_reducible rfl)) | (rw [if_neg (by omega)]; (try go_simp); (try with_reducible rfl)))))
            try simp only [Act.put, zA, zB, zC]
            refine wpAnyR_done (by kernel_rfl) ?_ _
            clear hS g6
            go_wp2_with fail
            go_roundg (U.labels.length - (j + 1))
            case measure => rw [HGK2.out]; omega
            case rel => exact ⟨j + 1, cd + 1, _, rfl, by omega, by omega, by go_num, by go_num, HN.out, HOW5.out.grew HG56.out, HG6.out⟩
          | true =>
            have HN := Lib.hid (show cntD (U.labels.take (j + 1)) (T.labels.take (j + 1)) = cd from by rw [HCS.out, he]; rfl)
            clear he
            go_wp2_with fail
            refine hK.out _ _ (.inr (fun _ => HSG.out _ HG6.out)) ?_
            clear hK
            refine wpAnyR_takeQ (i := 11) (v := ?_) (some 115) rfl rfl (by kernel_rfl) (by kernel_rfl) (by kernel_rfl) (by kernel_rfl) (fun _ _ _ h => h) (Or.inl ⟨by rfl, ?_⟩) ?_
            rotate_left
            focus (intro wS hSw; (try dsimp only at hSw); go_simp; (try with_reducible rfl); (try (first | (rw [if_pos (by omega)]; (try go_simp); (try with_reducible rfl)) | (rw [if_neg (by omega)]; (try go_simp); (try with_reducible rfl)))))
            try simp only [Act.put, zA, zB, zC]
            refine wpAnyR_done (by kernel_rfl) ?_ _
            clear hS g6
            go_wp2_with fail
            go_roundg (U.labels.length - (j + 1))
            case measure => rw [HGK2.out]; omega
            case rel => exact ⟨j + 1, cd, _, rfl, by omega, by omega, by go_num, by go_num, HN.out, HOW5.out.grew HG56.out, HG6.out⟩
        · have hjn : j = U.labels.length := by omega
          subst hjn
          have hcd2 : cntD U.labels T.labels = cd := by have := HCD.out; rwa [List.take_length, HLN.out, List.take_length] at this
          have hown3 : OwnL wq w12.heap.size 58 2 va ((freeT U ++ extsL U.labels).map runC) := by rw [List.take_length] at hown2; exact hown2
          obtain ⟨Ar, cr, hvr, hlr, hcr, hrr⟩ := own_runsL hown3 (fun r hr => (by
            rcases List.mem_append.1 hr with hr | hr
            · exact free_okrun U r hr
            · exact HU2.out.okruns r hr))
          subst hvr
          have hdf := diff_few T U HGD.out HKE.out.good HKE.out.name HKE.out.tracks HKE.out.len
          have hmx := HKE.out.diff
          rw [hcd2] at hdf hmx
          have HDF := Lib.hid hdf
          have hfc : (freeT U ++ extsL U.labels).length ≤ 128 + 16 * U.labels.length := by have := free_cell U U.labels.length (Nat.le_refl _) HKE.out.good; rwa [List.take_length] at this
          obtain ⟨al, hal⟩ : ∃ l, freeT U ++ extsL U.labels = l := ⟨_, rfl⟩
          obtain ⟨tt, htt⟩ : ∃ x, ttS U.tracks = x := ⟨_, rfl⟩
          have hpt := HPT.out
          have htk9 := okT_true HKE.out.good.tr
          have htb9 := ttS_bd U.tracks
          rw [hal, htt] at hpt
          rw [htt] at htb9
          rw [hal] at hlr hrr hfc ⊢
          have hle9 : al.length ≤ 1000 := by omega
          have HTT := Lib.hid htt
          have HDJ := Lib.hid (show decide (seqS al).Nodup = true from decide_eq_true hpt.1)
          obtain ⟨cc, hcc⟩ : ∃ x, U.tracks - tt = x := ⟨_, rfl⟩
          have hwr : IntKind.i64.wrap (U.tracks - tt) = cc := by rw [IntKind.wrap_i64]; omega
          have hcb : -9223372036854775808 ≤ cc ∧ cc ≤ 9223372036854775807 := by omega
          have HNM := Lib.hid (show ints (normS (memS al)) = [(tt, cc)] from by rw [hpt.2, hcc])
          have HRR := Lib.hid (fun w9 (g9 : Grew wq w9) => RunsAt.hold hrr g9)
          have HGQ := Lib.hid hgq
          have v1 := (HV.out.grew hgq).cell 1
          clear hcd2 hown2 hown3 hrr hdf hfc hal htt hpt hcc v2
          go_wp2_with fail
          refine (rtable_any _ _).mono ?_
          rintro e w8 ⟨rfl, rfl⟩
          rw [HTT.out]
          have HS2 := Lib.hid (show ∀ w1 : World, Grew w12 w1 → (fun w9 : World => w9.cell? ⟨gV, 1, none⟩ = some (.int .i64 U.tracks) ∧ w9.cell? ⟨gO, 0, none⟩ = some (.int .u8 (o.kind : Int))) w1 from fun w1 g1 => ⟨(HV.out.grew g1).cell 1, (HO.out.grew g1).cell 0⟩)
          have hS : (fun w9 : World => w9.cell? ⟨gV, 1, none⟩ = some (.int .i64 U.tracks) ∧ w9.cell? ⟨gO, 0, none⟩ = some (.int .u8 (o.kind : Int))) wq.drew := HS2.out _ hgq.drew
          have hvlO := (HO.out.grew hgq).lt
          have h2n : ¬ (2 : Int) < (cd : Int) := by split at hmx <;> omega
          have h2d : decide ((2 : Int) < (cd : Int)) = false := decide_eq_false h2n
          clear v1 hgq
          go_wp2_with fail
          by_cases hc1 : cd ≤ 1
          · have h1d : decide ((1 : Int) < (cd : Int)) = false := decide_eq_false (by omega)
            have HMX := Lib.hid hmx
            clear hmx hc1
            refine wp_region_R [] (fun w9 : World => w9.cell? ⟨gV, 1, none⟩ = some (.int .i64 U.tracks) ∧ w9.cell? ⟨gO, 0, none⟩ = some (.int .u8 (o.kind : Int))) (by kernel_rfl) ?_
            refine wpAnyR_takeQ (i := 0) (v := ?_) (some 122) rfl rfl (by kernel_rfl) (by kernel_rfl) (by kernel_rfl) (by kernel_rfl) (fun _ _ _ h => h) (Or.inl ⟨by rfl, ?_⟩) ?_
            rotate_left
            focus (intro wS hSw; (try dsimp only at hSw); go_simp; (try with_reducible rfl); (try (first | (rw [if_pos (by omega)]; (try go_simp); (try with_reducible rfl)) | (rw [if_neg (by omega)]; (try go_simp); (try with_reducible rfl)))))
            try simp only [Act.put, zA, zB, zC]
            refine wpAnyR_n1 (i := 1) rfl (by kernel_rfl) ?_
            intro K' hK
            rw [if_pos (by rfl)]
            simp only [List.getElem_toArray, List.getElem_cons_succ, List.getElem_cons_zero]
            go_wp2_with fail
            refine (disjoint_val (A := Ar) (c := cr) (w := wq.drew) rfl (by omega) (HRR.out _ (Grew.refl wq).drew) true HDJ.out).mono ?_
            rintro e w14 ⟨rfl, g14⟩
            have HG14 := Lib.hid ((Grew.refl wq).drew.trans g14)
            go_wp2_with fail
            refine hK.out _ _ (.inr (fun _ => HS2.out _ (HGQ.out.trans HG14.out))) ?_
            clear hK hS g14
            have hS : (fun w9 : World => w9.cell? ⟨gV, 1, none⟩ = some (.int .i64 U.tracks) ∧ w9.cell? ⟨gO, 0, none⟩ = some (.int .u8 (o.kind : Int))) w14 := HS2.out _ (HGQ.out.trans HG14.out)
            refine wpAnyR_takeQ (i := 2) (v := ?_) (some 124) rfl rfl (by kernel_rfl) (by kernel_rfl) (by kernel_rfl) (by kernel_rfl) (fun _ _ _ h => h) (Or.inl ⟨by rfl, ?_⟩) ?_
            rotate_left
            focus (intro wS hSw; (try dsimp only at hSw); go_simp; (try with_reducible rfl); (try (first | (rw [if_pos (by omega)]; (try go_simp); (try with_reducible rfl)) | (rw [if_neg (by omega)]; (try go_simp); (try with_reducible rfl)))))
            try simp only [Act.put, zA, zB, zC]
            refine wpAnyR_takeQ (i := 3) (v := ?_) (some 125) rfl rfl (by kernel_rfl) (by kernel_rfl) (by kernel_rfl) (by kernel_rfl) (fun _ _ _ h => h) (Or.inl ⟨by rfl, ?_⟩) ?_
            rotate_left
            focus (intro wS hSw; (try dsimp only at hSw); go_simp; (try with_reducible rfl); (try (first | (rw [if_pos (by omega)]; (try go_simp); (try with_reducible rfl)) | (rw [if_neg (by omega)]; (try go_simp); (try with_reducible rfl)))))
            try simp only [Act.put, zA, zB, zC]
            refine wpAnyR_takeQ (i := 4) (v := ?_) (some 126) rfl rfl (by kernel_rfl) (by kernel_rfl) (by kernel_rfl) (by kernel_rfl) (fun _ _ _ h => h) (Or.inl ⟨by rfl, ?_⟩) ?_
            rotate_left
            focus (intro wS hSw; (try dsimp only at hSw); go_simp; (try with_reducible rfl); (try (first | (rw [if_pos (by omega)]; (try go_simp); (try with_reducible rfl)) | (rw [if_neg (by omega)]; (try go_simp); (try with_reducible rfl)))))
            try simp only [Act.put, zA, zB, zC]
            refine wpAnyR_takeQ (i := 6) (v := ?_) (some 128) rfl rfl (by kernel_rfl) (by kernel_rfl) (by kernel_rfl) (by kernel_rfl) (fun _ _ _ h => h) (Or.inl ⟨by rfl, ?_⟩) ?_
            rotate_left
            focus (intro wS hSw; (try dsimp only at hSw); go_simp; (try with_reducible rfl); (try (first | (rw [if_pos (by omega)]; (try go_simp); (try with_reducible rfl)) | (rw [if_neg (by omega)]; (try go_simp); (try with_reducible rfl)))))
            try simp only [Act.put, zA, zB, zC]
            refine wpAnyR_takeQ (i := 7) (v := ?_) (some 129) rfl rfl (by kernel_rfl) (by kernel_rfl) (by kernel_rfl) (by kernel_rfl) (fun _ _ _ h => h) (Or.inl ⟨by rfl, ?_⟩) ?_
            rotate_left
            focus (intro wS hSw; (try dsimp only at hSw); go_simp; (try with_reducible rfl); (try (first | (rw [if_pos (by omega)]; (try go_simp); (try with_reducible rfl)) | (rw [if_neg (by omega)]; (try go_simp); (try with_reducible rfl)))))
            try simp only [Act.put, zA, zB, zC]
            refine wpAnyR_take (i := 8) (v := ?_) [10, 11, 12, 13, 14, 15, 16, 17, 18, 19, 20, 21, 22, 23, 24, 25, 26, 27, 28, 29] (some 130) rfl rfl (by kernel_rfl) (by kernel_rfl) (by kernel_rfl) (by kernel_rfl) (by kernel_rfl) (by kernel_rfl) (by kernel_rfl) (fun _ _ _ h => h) (Or.inl ⟨by rfl, ?_⟩) hS ?_
            rotate_left
            focus (intro wS hSw; (try dsimp only at hSw); go_simp; (try with_reducible rfl); (try (first | (rw [if_pos (by omega)]; (try go_simp); (try with_reducible rfl)) | (rw [if_neg (by omega)]; (try go_simp); (try with_reducible rfl)))))
            try simp only [Act.put, zA, zB, zC]
            refine wpAnyR_takeQ (i := 9) (v := ?_) (some 131) rfl rfl (by kernel_rfl) (by kernel_rfl) (by kernel_rfl) (by kernel_rfl) (fun _ _ _ h => h) (Or.inl ⟨by rfl, ?_⟩) ?_
            rotate_left
            focus (intro wS hSw; (try dsimp only at hSw); go_simp; (try with_reducible rfl); (try (first | (rw [if_pos (by omega)]; (try go_simp); (try with_reducible rfl)) | (rw [if_neg (by omega)]; (try go_simp); (try with_reducible rfl)))))
            try simp only [Act.put, zA, zB, zC]
            refine wpAnyR_takeQ (i := 10) (v := ?_) (some 132) rfl rfl (by kernel_rfl) (by kernel_rfl) (by kernel_rfl) (by kernel_rfl) (fun _ _ _ h => h) (Or.inl ⟨by rfl, ?_⟩) ?_
            rotate_left
            focus (intro wS hSw; (try dsimp only at hSw); go_simp; (try with_reducible rfl); (try (first | (rw [if_pos (by omega)]; (try go_simp); (try with_reducible rfl)) | (rw [if_neg (by omega)]; (try go_simp); (try with_reducible rfl)))))
            try simp only [Act.put, zA, zB, zC]
            refine wpAnyR_takeQ (i := 11) (v := ?_) (some 133) rfl rfl (by kernel_rfl) (by kernel_rfl) (by kernel_rfl) (by kernel_rfl) (fun _ _ _ h => h) (Or.inl ⟨by rfl, ?_⟩) ?_
            rotate_left
            focus (intro wS hSw; (try dsimp only at hSw); go_simp; (try with_reducible rfl); (try (first | (rw [if_pos (by omega)]; (try go_simp); (try with_reducible rfl)) | (rw [if_neg (by omega)]; (try go_simp); (try with_reducible rfl)))))
            try simp only [Act.put, zA, zB, zC]
            refine wpAnyR_n2 (i := 5) (j := 12) rfl rfl (by kernel_rfl) ?faa ?fab
            case' faa =>
              intro K' hK
              rw [if_pos (by rfl)]
              simp only [List.getElem_toArray, List.getElem_cons_succ, List.getElem_cons_zero]
              go_wp2_with fail
              refine (normal_val Ar cr _ al w14 rfl (by omega) (HRR.out _ HG14.out) _ HNM.out).mono ?_
              rintro e w15 ⟨A9, c9, rfl, r9, g15⟩
              have HG15 := Lib.hid (HG14.out.trans g15)
              go_wp2_with fail
              refine hK.out _ _ (.inr (fun _ => HS2.out _ (HGQ.out.trans HG15.out))) ?_
              clear hK hS g15
              refine wpAnyR_n1 (i := 12) rfl (by kernel_rfl) ?_
              intro K' hK
              rw [if_pos (by rfl)]
              simp only [List.getElem_toArray, List.getElem_cons_succ, List.getElem_cons_zero]
              go_wp2_with fail
              have gi := (Grew.refl w15).alloc (.cells #[.int .i64 tt, .int .i64 cc] 58)
              have r9i := RunsAt.hold r9 gi
              have rx := blk_runs (l := [(tt, cc)]) (Blk.new w15 58 #[.int .i64 tt, .int .i64 cc] rfl) rfl (by intro r hr; rw [List.mem_singleton.1 hr]; unfold okRun; simp only; omega)
              have HGi := Lib.hid (HG15.out.trans gi)
              refine hK.out _ _ (.inr (fun _ => HS2.out _ (HGQ.out.trans HGi.out))) ?_
              clear hK gi r9
            case' fab =>
              intro K' hK
              rw [if_pos (by rfl)]
              simp only [List.getElem_toArray, List.getElem_cons_succ, List.getElem_cons_zero]
              go_wp2_with fail
              have gi0 := (Grew.refl w14).alloc (.cells #[.int .i64 tt, .int .i64 cc] 58)
              have rx0 := blk_runs (l := [(tt, cc)]) (Blk.new w14 58 #[.int .i64 tt, .int .i64 cc] rfl) rfl (by intro r hr; rw [List.mem_singleton.1 hr]; unfold okRun; simp only; omega)
              have HG15 := Lib.hid (HG14.out.trans gi0)
              refine hK.out _ _ (.inr (fun _ => HS2.out _ (HGQ.out.trans HG15.out))) ?_
              clear hK hS gi0
              refine wpAnyR_n1 (i := 5) rfl (by kernel_rfl) ?_
              intro K' hK
              rw [if_pos (by rfl)]
              simp only [List.getElem_toArray, List.getElem_cons_succ, List.getElem_cons_zero]
              go_wp2_with fail
              refine (normal_val Ar cr _ al _ rfl (by omega) (HRR.out _ HG15.out) _ HNM.out).mono ?_
              rintro e w15 ⟨A9, c9, rfl, r9i, g15⟩
              have rx := RunsAt.hold rx0 g15
              have HGi := Lib.hid (HG15.out.trans g15)
              go_wp2_with fail
              refine hK.out _ _ (.inr (fun _ => HS2.out _ (HGQ.out.trans HGi.out))) ?_
              clear hK rx0 g15
            all_goals
              refine wpAnyR_n1 (i := 13) rfl (by kernel_rfl) ?_
              intro K' hK
              rw [if_pos (by rfl)]
              simp only [List.getElem_toArray, List.getElem_cons_succ, List.getElem_cons_zero]
              go_wp2_with fail
              refine (same_val _ _ _ _ _ _ [(tt, cc)] [(tt, cc)] _ rfl rfl (by simp) (by simp) r9i rx true (decide_eq_true rfl)).mono ?_
              rintro e w16 ⟨rfl, g16⟩
              have HG16 := Lib.hid (HGi.out.trans g16)
              go_wp2_with fail
              refine hK.out _ _ (.inr (fun _ => HS2.out _ (HGQ.out.trans HG16.out))) ?_
              clear hK g16 r9i rx
              have hS : (fun w9 : World => w9.cell? ⟨gV, 1, none⟩ = some (.int .i64 U.tracks) ∧ w9.cell? ⟨gO, 0, none⟩ = some (.int .u8 (o.kind : Int))) w16 := HS2.out _ (HGQ.out.trans HG16.out)
              refine wpAnyR_takeQ (i := 14) (v := ?_) (some 136) rfl rfl (by kernel_rfl) (by kernel_rfl) (by kernel_rfl) (by kernel_rfl) (fun _ _ _ h => h) (Or.inl ⟨by rfl, ?_⟩) ?_
              rotate_left
              focus (intro wS hSw; (try dsimp only at hSw); go_simp; (try with_reducible rfl); (try (first | (rw [if_pos (by omega)]; (try go_simp); (try with_reducible rfl)) | (rw [if_neg (by omega)]; (try go_simp); (try with_reducible rfl)))))
              try simp only [Act.put, zA, zB, zC]
              refine wpAnyR_takeQ (i := 15) (v := ?_) (some 137) rfl rfl (by kernel_rfl) (by kernel_rfl) (by kernel_rfl) (by kernel_rfl) (fun _ _ _ h => h) (Or.inl ⟨by rfl, ?_⟩) ?_
              rotate_left
              focus (intro wS hSw; (try dsimp only at hSw); go_simp; (try with_reducible rfl); (try (first | (rw [if_pos (by omega)]; (try go_simp); (try with_reducible rfl)) | (rw [if_neg (by omega)]; (try go_simp); (try with_reducible rfl)))))
              try simp only [Act.put, zA, zB, zC]
              refine wpAnyR_takeQ (i := 16) (v := ?_) (some 138) rfl rfl (by kernel_rfl) (by kernel_rfl) (by kernel_rfl) (by kernel_rfl) (fun _ _ _ h => h) (Or.inl ⟨by rfl, ?_⟩) ?_
              rotate_left
              focus (intro wS hSw; (try dsimp only at hSw); go_simp; (try with_reducible rfl); (try (first | (rw [if_pos (by omega)]; (try go_simp); (try with_reducible rfl)) | (rw [if_neg (by omega)]; (try go_simp); (try with_reducible rfl)))))
              try simp only [Act.put, zA, zB, zC]
              refine wpAnyR_takeQ (i := 17) (v := ?_) (some 139) rfl rfl (by kernel_rfl) (by kernel_rfl) (by kernel_rfl) (by kernel_rfl) (fun _ _ _ h => h) (Or.inl ⟨by rfl, ?_⟩) ?_
              rotate_left
              focus (intro wS hSw; (try dsimp only at hSw); go_simp; (try with_reducible rfl); (try (first | (rw [if_pos (by omega)]; (try go_simp); (try with_reducible rfl)) | (rw [if_neg (by omega)]; (try go_simp); (try with_reducible rfl)))))
              try simp only [Act.put, zA, zB, zC]
              refine wpAnyR_takeQ (i := 18) (v := ?_) (some 140) rfl rfl (by kernel_rfl) (by kernel_rfl) (by kernel_rfl) (by kernel_rfl) (fun _ _ _ h => h) (Or.inl ⟨by rfl, ?_⟩) ?_
              rotate_left
              focus (intro wS hSw; (try dsimp only at hSw); go_simp; (try with_reducible rfl); (try (first | (rw [if_pos (by omega)]; (try go_simp); (try with_reducible rfl)) | (rw [if_neg (by omega)]; (try go_simp); (try with_reducible rfl)))))
              try simp only [Act.put, zA, zB, zC]
              refine wpAnyR_takeQ (i := 19) (v := ?_) (some 141) rfl rfl (by kernel_rfl) (by kernel_rfl) (by kernel_rfl) (by kernel_rfl) (fun _ _ _ h => h) (Or.inl ⟨by rfl, ?_⟩) ?_
              rotate_left
              focus (intro wS hSw; (try dsimp only at hSw); go_simp; (try with_reducible rfl); (try (first | (rw [if_pos (by omega)]; (try go_simp); (try with_reducible rfl)) | (rw [if_neg (by omega)]; (try go_simp); (try with_reducible rfl)))))
              try simp only [Act.put, zA, zB, zC]
              refine wpAnyR_takeQ (i := 20) (v := ?_) (some 142) rfl rfl (by kernel_rfl) (by kernel_rfl) (by kernel_rfl) (by kernel_rfl) (fun _ _ _ h => h) (Or.inl ⟨by rfl, ?_⟩) ?_
              rotate_left
              focus (intro wS hSw; (try dsimp only at hSw); go_simp; (try with_reducible rfl); (try (first | (rw [if_pos (by omega)]; (try go_simp); (try with_reducible rfl)) | (rw [if_neg (by omega)]; (try go_simp); (try with_reducible rfl)))))
              try simp only [Act.put, zA, zB, zC]
              refine wpAnyR_takeQ (i := 21) (v := ?_) (some 143) rfl rfl (by kernel_rfl) (by kernel_rfl) (by kernel_rfl) (by kernel_rfl) (fun _ _ _ h => h) (Or.inl ⟨by rfl, ?_⟩) ?_
              rotate_left
              focus (intro wS hSw; (try dsimp only at hSw); go_simp; (try with_reducible rfl); (try (first | (rw [if_pos (by omega)]; (try go_simp); (try with_reducible rfl)) | (rw [if_neg (by omega)]; (try go_simp); (try with_reducible rfl)))))
              try simp only [Act.put, zA, zB, zC]
              refine wpAnyR_takeQ (i := 22) (v := ?_) (some 144) rfl rfl (by kernel_rfl) (by kernel_rfl) (by kernel_rfl) (by kernel_rfl) (fun _ _ _ h => h) (Or.inl ⟨by rfl, ?_⟩) ?_
              rotate_left
              focus (intro wS hSw; (try dsimp only at hSw); go_simp; (try with_reducible rfl); (try (first | (rw [if_pos (by omega)]; (try go_simp); (try with_reducible rfl)) | (rw [if_neg (by omega)]; (try go_simp); (try with_reducible rfl)))))
              try simp only [Act.put, zA, zB, zC]
              refine wpAnyR_takeQ (i := 23) (v := ?_) (some 145) rfl rfl (by kernel_rfl) (by kernel_rfl) (by kernel_rfl) (by kernel_rfl) (fun _ _ _ h => h) (Or.inl ⟨by rfl, ?_⟩) ?_
              rotate_left
              focus (intro wS hSw; (try dsimp only at hSw); go_simp; (try with_reducible rfl); (try (first | (rw [if_pos (by omega)]; (try go_simp); (try with_reducible rfl)) | (rw [if_neg (by omega)]; (try go_simp); (try with_reducible rfl)))))
              try simp only [Act.put, zA, zB, zC]
              refine wpAnyR_takeQ (i := 24) (v := undef) (some 146) rfl rfl (by kernel_rfl) (by kernel_rfl) (by kernel_rfl) (by kernel_rfl) (fun _ _ _ h => h) (Or.inr ⟨by rfl, rfl⟩) ?_
              try simp only [Act.put, zA, zB, zC]
              refine wpAnyR_takeQ (i := 25) (v := undef) (some 147) rfl rfl (by kernel_rfl) (by kernel_rfl) (by kernel_rfl) (by kernel_rfl) (fun _ _ _ h => h) (Or.inr ⟨by rfl, rfl⟩) ?_
              try simp only [Act.put, zA, zB, zC]
              refine wpAnyR_takeQ (i := 26) (v := undef) (some 148) rfl rfl (by kernel_rfl) (by kernel_rfl) (by kernel_rfl) (by kernel_rfl) (fun _ _ _ h => h) (Or.inr ⟨by rfl, rfl⟩) ?_
              try simp only [Act.put, zA, zB, zC]
              refine wpAnyR_takeQ (i := 27) (v := undef) (some 149) rfl rfl (by kernel_rfl) (by kernel_rfl) (by kernel_rfl) (by kernel_rfl) (fun _ _ _ h => h) (Or.inr ⟨by rfl, rfl⟩) ?_
              try simp only [Act.put, zA, zB, zC]
              refine wpAnyR_takeQ (i := 28) (v := ?_) (some 150) rfl rfl (by kernel_rfl) (by kernel_rfl) (by kernel_rfl) (by kernel_rfl) (fun _ _ _ h => h) (Or.inl ⟨by rfl, ?_⟩) ?_
              rotate_left
              focus (intro wS hSw; (try dsimp only at hSw); go_simp; (try with_reducible rfl); (try (first | (rw [if_pos (by omega)]; (try go_simp); (try with_reducible rfl)) | (rw [if_neg (by omega)]; (try go_simp); (try with_reducible rfl)))))
              try simp only [Act.put, zA, zB, zC]
              refine wpAnyR_takeQ (i := 29) (v := ?_) (some 151) rfl rfl (by kernel_rfl) (by kernel_rfl) (by kernel_rfl) (by kernel_rfl) (fun _ _ _ h => h) (Or.inl ⟨by rfl, ?_⟩) ?_
              rotate_left
              focus (intro wS hSw; (try dsimp only at hSw); go_simp; (try with_reducible rfl); (try (first | (rw [if_pos (by omega)]; (try go_simp); (try with_reducible rfl)) | (rw [if_neg (by omega)]; (try go_simp); (try with_reducible rfl)))))
              try simp only [Act.put, zA, zB, zC]
              refine wpAnyR_done (by kernel_rfl) ?_ _
              clear hS
              have HGA := Lib.hid (HGQ.out.trans HG16.out)
              have hv16 := HV.out.grew HGA.out
              have hb16 := HB4.out.grew HGA.out
              have y0 := hv16.cell 0
              have y1 := hv16.cell 1
              have y2 := hv16.cell 2
              have yl := hv16.lt
              have z0 := hb16.cell 0
              have z1 := hb16.cell 1
              have z2 := hb16.cell 2
              have zl := hb16.lt
              go_wp2_with fail
              refine (changes_tab (A := A2) (c := c2) (xs := ys) (T := T) (A2 := A3) (c2 := c3) (ys := zs) (U := U) (w := w16) (HT4.out.hold HGA.out) (good_small HGD.out) (HU2.out.hold HGA.out) (good_small HKE.out.good)).mono ?_
              rintro e w17 ⟨v17, rfl, hown17, g17⟩
              obtain ⟨Ad, cd9, hvd, _, _, _⟩ := hown17.listAt
              rw [List.length_map] at hvd
              subst hvd
              have hdl : ¬ (8 * (cd : Int)) < ((diffT T U).length : Int) := by have := HDF.out; omega
              have HGB := Lib.hid (HGA.out.trans g17)
              have hv17 := HV.out.grew HGB.out
              have hb17 := HB4.out.grew HGB.out
              have HB17 := Lib.hid hb17
              clear y0 y1 y2 yl z0 z1 z2 zl hv16 hb16 hown17 g17
              have y0 := hv17.cell 0
              have y1 := hv17.cell 1
              have y2 := hv17.cell 2
              have yl := hv17.lt
              have z0 := hb17.cell 0
              have z1 := hb17.cell 1
              have z2 := hb17.cell 2
              have f0 := hb17.frozen 0
              have f1 := hb17.frozen 1
              have f2 := hb17.frozen 2
              have zl := hb17.lt
              clear hv17 hb17
              go_wp2_with fail
              go_roundg (xs.length - (k + 1))
              case measure => rw [HGK.out]; omega
              case rel => exact ⟨k + 1, U, A3, c3, zs, by omega, by omega, by go_num, HKE.out.good, (HU2.out.hold HGB.out).apart HB17.out (tab3_turned _ _ _ _ _), Blk.tab HB17.out, Grew.tab3 (HG4.out.trans HGB.out) HG5W.out _ _ _⟩
          · have h1d : decide ((1 : Int) < (cd : Int)) = true := decide_eq_true (by omega)
            have hk5 : (o.kind : Int) % 7 = 4 := by
              split at hmx
              · rename_i h4; exact h4
              · omega
            have hk6 : ((o.kind : Int).tmod 7 != 4) = false := by rw [Int.tmod_eq_emod_of_nonneg (by omega), hk5]; rfl
            clear hk5
            have hkr : 0 ≤ (o.kind : Int) ∧ (o.kind : Int) ≤ 255 := by have := HOPH.out.kind; omega
            have HMX := Lib.hid hmx
            clear hmx hc1
            refine wp_region_R [] (fun w9 : World => w9.cell? ⟨gV, 1, none⟩ = some (.int .i64 U.tracks) ∧ w9.cell? ⟨gO, 0, none⟩ = some (.int .u8 (o.kind : Int))) (by kernel_rfl) ?_
            refine wpAnyR_takeQ (i := 0) (v := ?_) (some 122) rfl rfl (by kernel_rfl) (by kernel_rfl) (by kernel_rfl) (by kernel_rfl) (fun _ _ _ h => h) (Or.inl ⟨by rfl, ?_⟩) ?_
            rotate_left
            focus (intro wS hSw; (try dsimp only at hSw); go_simp; (try with_reducible rfl); (try (first | (rw [if_pos (by omega)]; (try go_simp); (try with_reducible rfl)) | (rw [if_neg (by omega)]; (try go_simp); (try with_reducible rfl)))))
            try simp only [Act.put, zA, zB, zC]
            refine wpAnyR_n1 (i := 1) rfl (by kernel_rfl) ?_
            intro K' hK
            rw [if_pos (by rfl)]
            simp only [List.getElem_toArray, List.getElem_cons_succ, List.getElem_cons_zero]
            go_wp2_with fail
            refine (disjoint_val (A := Ar) (c := cr) (w := wq.drew) rfl (by omega) (HRR.out _ (Grew.refl wq).drew) true HDJ.out).mono ?_
            rintro e w14 ⟨rfl, g14⟩
            have HG14 := Lib.hid ((Grew.refl wq).drew.trans g14)
            go_wp2_with fail
            refine hK.out _ _ (.inr (fun _ => HS2.out _ (HGQ.out.trans HG14.out))) ?_
            clear hK hS g14
            have hS : (fun w9 : World => w9.cell? ⟨gV, 1, none⟩ = some (.int .i64 U.tracks) ∧ w9.cell? ⟨gO, 0, none⟩ = some (.int .u8 (o.kind : Int))) w14 := HS2.out _ (HGQ.out.trans HG14.out)
            refine wpAnyR_takeQ (i := 2) (v := ?_) (some 124) rfl rfl (by kernel_rfl) (by kernel_rfl) (by kernel_rfl) (by kernel_rfl) (fun _ _ _ h => h) (Or.inl ⟨by rfl, ?_⟩) ?_
            rotate_left
            focus (intro wS hSw; (try dsimp only at hSw); go_simp; (try with_reducible rfl); (try (first | (rw [if_pos (by omega)]; (try go_simp); (try with_reducible rfl)) | (rw [if_neg (by omega)]; (try go_simp); (try with_reducible rfl)))))
            try simp only [Act.put, zA, zB, zC]
            refine wpAnyR_takeQ (i := 3) (v := ?_) (some 125) rfl rfl (by kernel_rfl) (by kernel_rfl) (by kernel_rfl) (by kernel_rfl) (fun _ _ _ h => h) (Or.inl ⟨by rfl, ?_⟩) ?_
            rotate_left
            focus (intro wS hSw; (try dsimp only at hSw); go_simp; (try with_reducible rfl); (try (first | (rw [if_pos (by omega)]; (try go_simp); (try with_reducible rfl)) | (rw [if_neg (by omega)]; (try go_simp); (try with_reducible rfl)))))
            try simp only [Act.put, zA, zB, zC]
            refine wpAnyR_takeQ (i := 4) (v := ?_) (some 126) rfl rfl (by kernel_rfl) (by kernel_rfl) (by kernel_rfl) (by kernel_rfl) (fun _ _ _ h => h) (Or.inl ⟨by rfl, ?_⟩) ?_
            rotate_left
            focus (intro wS hSw; (try dsimp only at hSw); go_simp; (try with_reducible rfl); (try (first | (rw [if_pos (by omega)]; (try go_simp); (try with_reducible rfl)) | (rw [if_neg (by omega)]; (try go_simp); (try with_reducible rfl)))))
            try simp only [Act.put, zA, zB, zC]
            refine wpAnyR_takeQ (i := 6) (v := ?_) (some 128) rfl rfl (by kernel_rfl) (by kernel_rfl) (by kernel_rfl) (by kernel_rfl) (fun _ _ _ h => h) (Or.inl ⟨by rfl, ?_⟩) ?_
            rotate_left
            focus (intro wS hSw; (try dsimp only at hSw); go_simp; (try with_reducible rfl); (try (first | (rw [if_pos (by omega)]; (try go_simp); (try with_reducible rfl)) | (rw [if_neg (by omega)]; (try go_simp); (try with_reducible rfl)))))
            try simp only [Act.put, zA, zB, zC]
            refine wpAnyR_takeQ (i := 7) (v := ?_) (some 129) rfl rfl (by kernel_rfl) (by kernel_rfl) (by kernel_rfl) (by kernel_rfl) (fun _ _ _ h => h) (Or.inl ⟨by rfl, ?_⟩) ?_
            rotate_left
            focus (intro wS hSw; (try dsimp only at hSw); go_simp; (try with_reducible rfl); (try (first | (rw [if_pos (by omega)]; (try go_simp); (try with_reducible rfl)) | (rw [if_neg (by omega)]; (try go_simp); (try with_reducible rfl)))))
            try simp only [Act.put, zA, zB, zC]
            refine wpAnyR_take (i := 8) (v := ?_) [10, 11, 12, 13, 14, 15, 16, 17, 18, 19, 20, 21, 22, 23, 24, 25, 26, 27, 28, 29] (some 130) rfl rfl (by kernel_rfl) (by kernel_rfl) (by kernel_rfl) (by kernel_rfl) (by kernel_rfl) (by kernel_rfl) (by kernel_rfl) (fun _ _ _ h => h) (Or.inl ⟨by rfl, ?_⟩) hS ?_
            rotate_left
            focus (intro wS hSw; (try dsimp only at hSw); go_simp; (try with_reducible rfl); (try (first | (rw [if_pos (by omega)]; (try go_simp); (try with_reducible rfl)) | (rw [if_neg (by omega)]; (try go_simp); (try with_reducible rfl)))))
            try simp only [Act.put, zA, zB, zC]
            refine wpAnyR_takeQ (i := 9) (v := ?_) (some 131) rfl rfl (by kernel_rfl) (by kernel_rfl) (by kernel_rfl) (by kernel_rfl) (fun _ _ _ h => h) (Or.inl ⟨by rfl, ?_⟩) ?_
            rotate_left
            focus (intro wS hSw; (try dsimp only at hSw); go_simp; (try with_reducible rfl); (try (first | (rw [if_pos (by omega)]; (try go_simp); (try with_reducible rfl)) | (rw [if_neg (by omega)]; (try go_simp); (try with_reducible rfl)))))
            try simp only [Act.put, zA, zB, zC]
            refine wpAnyR_takeQ (i := 10) (v := ?_) (some 132) rfl rfl (by kernel_rfl) (by kernel_rfl) (by kernel_rfl) (by kernel_rfl) (fun _ _ _ h => h) (Or.inl ⟨by rfl, ?_⟩) ?_
            rotate_left
            focus (intro wS hSw; (try dsimp only at hSw); go_simp; (try with_reducible rfl); (try (first | (rw [if_pos (by omega)]; (try go_simp); (try with_reducible rfl)) | (rw [if_neg (by omega)]; (try go_simp); (try with_reducible rfl)))))
            try simp only [Act.put, zA, zB, zC]
            refine wpAnyR_takeQ (i := 11) (v := ?_) (some 133) rfl rfl (by kernel_rfl) (by kernel_rfl) (by kernel_rfl) (by kernel_rfl) (fun _ _ _ h => h) (Or.inl ⟨by rfl, ?_⟩) ?_
            rotate_left
            focus (intro wS hSw; (try dsimp only at hSw); go_simp; (try with_reducible rfl); (try (first | (rw [if_pos (by omega)]; (try go_simp); (try with_reducible rfl)) | (rw [if_neg (by omega)]; (try go_simp); (try with_reducible rfl)))))
            try simp only [Act.put, zA, zB, zC]
            refine wpAnyR_n2 (i := 5) (j := 12) rfl rfl (by kernel_rfl) ?fca ?fcb
            case' fca =>
              intro K' hK
              rw [if_pos (by rfl)]
              simp only [List.getElem_toArray, List.getElem_cons_succ, List.getElem_cons_zero]
              go_wp2_with fail
              refine (normal_val Ar cr _ al w14 rfl (by omega) (HRR.out _ HG14.out) _ HNM.out).mono ?_
              rintro e w15 ⟨A9, c9, rfl, r9, g15⟩
              have HG15 := Lib.hid (HG14.out.trans g15)
              go_wp2_with fail
              refine hK.out _ _ (.inr (fun _ => HS2.out _ (HGQ.out.trans HG15.out))) ?_
              clear hK hS g15
              refine wpAnyR_n1 (i := 12) rfl (by kernel_rfl) ?_
              intro K' hK
              rw [if_pos (by rfl)]
              simp only [List.getElem_toArray, List.getElem_cons_succ, List.getElem_cons_zero]
              go_wp2_with fail
              have gi := (Grew.refl w15).alloc (.cells #[.int .i64 tt, .int .i64 cc] 58)
              have r9i := RunsAt.hold r9 gi
              have rx := blk_runs (l := [(tt, cc)]) (Blk.new w15 58 #[.int .i64 tt, .int .i64 cc] rfl) rfl (by intro r hr; rw [List.mem_singleton.1 hr]; unfold okRun; simp only; omega)
              have HGi := Lib.hid (HG15.out.trans gi)
              refine hK.out _ _ (.inr (fun _ => HS2.out _ (HGQ.out.trans HGi.out))) ?_
              clear hK gi r9
            case' fcb =>
              intro K' hK
              rw [if_pos (by rfl)]
              simp only [List.getElem_toArray, List.getElem_cons_succ, List.getElem_cons_zero]
              go_wp2_with fail
              have gi0 := (Grew.refl w14).alloc (.cells #[.int .i64 tt, .int .i64 cc] 58)
              have rx0 := blk_runs (l := [(tt, cc)]) (Blk.new w14 58 #[.int .i64 tt, .int .i64 cc] rfl) rfl (by intro r hr; rw [List.mem_singleton.1 hr]; unfold okRun; simp only; omega)
              have HG15 := Lib.hid (HG14.out.trans gi0)
              refine hK.out _ _ (.inr (fun _ => HS2.out _ (HGQ.out.trans HG15.out))) ?_
              clear hK hS gi0
              refine wpAnyR_n1 (i := 5) rfl (by kernel_rfl) ?_
              intro K' hK
              rw [if_pos (by rfl)]
              simp only [List.getElem_toArray, List.getElem_cons_succ, List.getElem_cons_zero]
              go_wp2_with fail
              refine (normal_val Ar cr _ al _ rfl (by omega) (HRR.out _ HG15.out) _ HNM.out).mono ?_
              rintro e w15 ⟨A9, c9, rfl, r9i, g15⟩
              have rx := RunsAt.hold rx0 g15
              have HGi := Lib.hid (HG15.out.trans g15)
              go_wp2_with fail
              refine hK.out _ _ (.inr (fun _ => HS2.out _ (HGQ.out.trans HGi.out))) ?_
              clear hK rx0 g15
            all_goals
              refine wpAnyR_n1 (i := 13) rfl (by kernel_rfl) ?_
              intro K' hK
              rw [if_pos (by rfl)]
              simp only [List.getElem_toArray, List.getElem_cons_succ, List.getElem_cons_zero]
              go_wp2_with fail
              refine (same_val _ _ _ _ _ _ [(tt, cc)] [(tt, cc)] _ rfl rfl (by simp) (by simp) r9i rx true (decide_eq_true rfl)).mono ?_
              rintro e w16 ⟨rfl, g16⟩
              have HG16 := Lib.hid (HGi.out.trans g16)
              go_wp2_with fail
              refine hK.out _ _ (.inr (fun _ => HS2.out _ (HGQ.out.trans HG16.out))) ?_
              clear hK g16 r9i rx
              have hS : (fun w9 : World => w9.cell? ⟨gV, 1, none⟩ = some (.int .i64 U.tracks) ∧ w9.cell? ⟨gO, 0, none⟩ = some (.int .u8 (o.kind : Int))) w16 := HS2.out _ (HGQ.out.trans HG16.out)
              refine wpAnyR_takeQ (i := 14) (v := ?_) (some 136) rfl rfl (by kernel_rfl) (by kernel_rfl) (by kernel_rfl) (by kernel_rfl) (fun _ _ _ h => h) (Or.inl ⟨by rfl, ?_⟩) ?_
              rotate_left
              focus (intro wS hSw; (try dsimp only at hSw); go_simp; (try with_reducible rfl); (try (first | (rw [if_pos (by omega)]; (try go_simp); (try with_reducible rfl)) | (rw [if_neg (by omega)]; (try go_simp); (try with_reducible rfl)))))
              try simp only [Act.put, zA, zB, zC]
              refine wpAnyR_takeQ (i := 15) (v := ?_) (some 137) rfl rfl (by kernel_rfl) (by kernel_rfl) (by kernel_rfl) (by kernel_rfl) (fun _ _ _ h => h) (Or.inl ⟨by rfl, ?_⟩) ?_
              rotate_left
              focus (intro wS hSw; (try dsimp only at hSw); go_simp; (try with_reducible rfl); (try (first | (rw [if_pos (by omega)]; (try go_simp); (try with_reducible rfl)) | (rw [if_neg (by omega)]; (try go_simp); (try with_reducible rfl)))))
              try simp only [Act.put, zA, zB, zC]
              refine wpAnyR_takeQ (i := 16) (v := ?_) (some 138) rfl rfl (by kernel_rfl) (by kernel_rfl) (by kernel_rfl) (by kernel_rfl) (fun _ _ _ h => h) (Or.inl ⟨by rfl, ?_⟩) ?_
              rotate_left
              focus (intro wS hSw; (try dsimp only at hSw); go_simp; (try with_reducible rfl); (try (first | (rw [if_pos (by omega)]; (try go_simp); (try with_reducible rfl)) | (rw [if_neg (by omega)]; (try go_simp); (try with_reducible rfl)))))
              try simp only [Act.put, zA, zB, zC]
              refine wpAnyR_takeQ (i := 17) (v := ?_) (some 139) rfl rfl (by kernel_rfl) (by kernel_rfl) (by kernel_rfl) (by kernel_rfl) (fun _ _ _ h => h) (Or.inl ⟨by rfl, ?_⟩) ?_
              rotate_left
              focus (intro wS hSw; (try dsimp only at hSw); go_simp; (try with_reducible rfl); (try (first | (rw [if_pos (by omega)]; (try go_simp); (try with_reducible rfl)) | (rw [if_neg (by omega)]; (try go_simp); (try with_reducible rfl)))))
              try simp only [Act.put, zA, zB, zC]
              refine wpAnyR_takeQ (i := 18) (v := ?_) (some 140) rfl rfl (by kernel_rfl) (by kernel_rfl) (by kernel_rfl) (by kernel_rfl) (fun _ _ _ h => h) (Or.inl ⟨by rfl, ?_⟩) ?_
              rotate_left
              focus (intro wS hSw; (try dsimp only at hSw); go_simp; (try with_reducible rfl); (try (first | (rw [if_pos (by omega)]; (try go_simp); (try with_reducible rfl)) | (rw [if_neg (by omega)]; (try go_simp); (try with_reducible rfl)))))
              try simp only [Act.put, zA, zB, zC]
              refine wpAnyR_takeQ (i := 19) (v := ?_) (some 141) rfl rfl (by kernel_rfl) (by kernel_rfl) (by kernel_rfl) (by kernel_rfl) (fun _ _ _ h => h) (Or.inl ⟨by rfl, ?_⟩) ?_
              rotate_left
              focus (intro wS hSw; (try dsimp only at hSw); go_simp; (try with_reducible rfl); (try (first | (rw [if_pos (by omega)]; (try go_simp); (try with_reducible rfl)) | (rw [if_neg (by omega)]; (try go_simp); (try with_reducible rfl)))))
              try simp only [Act.put, zA, zB, zC]
              refine wpAnyR_takeQ (i := 20) (v := ?_) (some 142) rfl rfl (by kernel_rfl) (by kernel_rfl) (by kernel_rfl) (by kernel_rfl) (fun _ _ _ h => h) (Or.inl ⟨by rfl, ?_⟩) ?_
              rotate_left
              focus (intro wS hSw; (try dsimp only at hSw); go_simp; (try with_reducible rfl); (try (first | (rw [if_pos (by omega)]; (try go_simp); (try with_reducible rfl)) | (rw [if_neg (by omega)]; (try go_simp); (try with_reducible rfl)))))
              try simp only [Act.put, zA, zB, zC]
              refine wpAnyR_takeQ (i := 21) (v := ?_) (some 143) rfl rfl (by kernel_rfl) (by kernel_rfl) (by kernel_rfl) (by kernel_rfl) (fun _ _ _ h => h) (Or.inl ⟨by rfl, ?_⟩) ?_
              rotate_left
              focus (intro wS hSw; (try dsimp only at hSw); go_simp; (try with_reducible rfl); (try (first | (rw [if_pos (by omega)]; (try go_simp); (try with_reducible rfl)) | (rw [if_neg (by omega)]; (try go_simp); (try with_reducible rfl)))))
              try simp only [Act.put, zA, zB, zC]
              refine wpAnyR_takeQ (i := 22) (v := ?_) (some 144) rfl rfl (by kernel_rfl) (by kernel_rfl) (by kernel_rfl) (by kernel_rfl) (fun _ _ _ h => h) (Or.inl ⟨by rfl, ?_⟩) ?_
              rotate_left
              focus (intro wS hSw; (try dsimp only at hSw); go_simp; (try with_reducible rfl); (try (first | (rw [if_pos (by omega)]; (try go_simp); (try with_reducible rfl)) | (rw [if_neg (by omega)]; (try go_simp); (try with_reducible rfl)))))
              try simp only [Act.put, zA, zB, zC]
              refine wpAnyR_takeQ (i := 23) (v := ?_) (some 145) rfl rfl (by kernel_rfl) (by kernel_rfl) (by kernel_rfl) (by kernel_rfl) (fun _ _ _ h => h) (Or.inl ⟨by rfl, ?_⟩) ?_
              rotate_left
              focus (intro wS hSw; (try dsimp only at hSw); go_simp; (try with_reducible rfl); (try (first | (rw [if_pos (by omega)]; (try go_simp); (try with_reducible rfl)) | (rw [if_neg (by omega)]; (try go_simp); (try with_reducible rfl)))))
              try simp only [Act.put, zA, zB, zC]
              refine wpAnyR_takeQ (i := 24) (v := ?_) (some 146) rfl rfl (by kernel_rfl) (by kernel_rfl) (by kernel_rfl) (by kernel_rfl) (fun _ _ _ h => h) (Or.inl ⟨by rfl, ?_⟩) ?_
              rotate_left
              focus (intro wS hSw; (try dsimp only at hSw); go_simp; (try with_reducible rfl); (try (first | (rw [if_pos (by omega)]; (try go_simp); (try with_reducible rfl)) | (rw [if_neg (by omega)]; (try go_simp); (try with_reducible rfl)))))
              try simp only [Act.put, zA, zB, zC]
              refine wpAnyR_take (i := 25) (v := ?_) [26, 27, 28, 29] (some 147) rfl rfl (by kernel_rfl) (by kernel_rfl) (by kernel_rfl) (by kernel_rfl) (by kernel_rfl) (by kernel_rfl) (by kernel_rfl) (fun _ _ _ h => h) (Or.inl ⟨by rfl, ?_⟩) hS ?_
              rotate_left
              focus (intro wS hSw; (try dsimp only at hSw); go_simp; (try with_reducible rfl); (try (first | (rw [if_pos (by omega)]; (try go_simp); (try with_reducible rfl)) | (rw [if_neg (by omega)]; (try go_simp); (try with_reducible rfl)))))
              try simp only [Act.put, zA, zB, zC]
              refine wpAnyR_takeQ (i := 26) (v := ?_) (some 148) rfl rfl (by kernel_rfl) (by kernel_rfl) (by kernel_rfl) (by kernel_rfl) (fun _ _ _ h => h) (Or.inl ⟨by rfl, ?_⟩) ?_
              rotate_left
              focus (intro wS hSw; (try dsimp only at hSw); go_simp; (try with_reducible rfl); (try (first | (rw [if_pos (by omega)]; (try go_simp); (try with_reducible rfl)) | (rw [if_neg (by omega)]; (try go_simp); (try with_reducible rfl)))))
              try simp only [Act.put, zA, zB, zC]
              refine wpAnyR_takeQ (i := 27) (v := ?_) (some 149) rfl rfl (by kernel_rfl) (by kernel_rfl) (by kernel_rfl) (by kernel_rfl) (fun _ _ _ h => h) (Or.inl ⟨by rfl, ?_⟩) ?_
              rotate_left
              focus (intro wS hSw; (try dsimp only at hSw); go_simp; (try with_reducible rfl); (try (first | (rw [if_pos (by omega)]; (try go_simp); (try with_reducible rfl)) | (rw [if_neg (by omega)]; (try go_simp); (try with_reducible rfl)))))
              try simp only [Act.put, zA, zB, zC]
              refine wpAnyR_takeQ (i := 28) (v := ?_) (some 150) rfl rfl (by kernel_rfl) (by kernel_rfl) (by kernel_rfl) (by kernel_rfl) (fun _ _ _ h => h) (Or.inl ⟨by rfl, ?_⟩) ?_
              rotate_left
              focus (intro wS hSw; (try dsimp only at hSw); go_simp; (try with_reducible rfl); (try (first | (rw [if_pos (by omega)]; (try go_simp); (try with_reducible rfl)) | (rw [if_neg (by omega)]; (try go_simp); (try with_reducible rfl)))))
              try simp only [Act.put, zA, zB, zC]
              refine wpAnyR_takeQ (i := 29) (v := ?_) (some 151) rfl rfl (by kernel_rfl) (by kernel_rfl) (by kernel_rfl) (by kernel_rfl) (fun _ _ _ h => h) (Or.inl ⟨by rfl, ?_⟩) ?_
              rotate_left
              focus (intro wS hSw; (try dsimp only at hSw); go_simp; (try with_reducible rfl); (try (first | (rw [if_pos (by omega)]; (try go_simp); (try with_reducible rfl)) | (rw [if_neg (by omega)]; (try go_simp); (try with_reducible rfl)))))
              try simp only [Act.put, zA, zB, zC]
              refine wpAnyR_done (by kernel_rfl) ?_ _
              clear hS
              have HGA := Lib.hid (HGQ.out.trans HG16.out)
              have hv16 := HV.out.grew HGA.out
              have hb16 := HB4.out.grew HGA.out
              have y0 := hv16.cell 0
              have y1 := hv16.cell 1
              have y2 := hv16.cell 2
              have yl := hv16.lt
              have z0 := hb16.cell 0
              have z1 := hb16.cell 1
              have z2 := hb16.cell 2
              have zl := hb16.lt
              go_wp2_with fail
              refine (changes_tab (A := A2) (c := c2) (xs := ys) (T := T) (A2 := A3) (c2 := c3) (ys := zs) (U := U) (w := w16) (HT4.out.hold HGA.out) (good_small HGD.out) (HU2.out.hold HGA.out) (good_small HKE.out.good)).mono ?_
              rintro e w17 ⟨v17, rfl, hown17, g17⟩
              obtain ⟨Ad, cd9, hvd, _, _, _⟩ := hown17.listAt
              rw [List.length_map] at hvd
              subst hvd
              have hdl : ¬ (8 * (cd : Int)) < ((diffT T U).length : Int) := by have := HDF.out; omega
              have HGB := Lib.hid (HGA.out.trans g17)
              have hv17 := HV.out.grew HGB.out
              have hb17 := HB4.out.grew HGB.out
              have HB17 := Lib.hid hb17
              clear y0 y1 y2 yl z0 z1 z2 zl hv16 hb16 hown17 g17
              have y0 := hv17.cell 0
              have y1 := hv17.cell 1
              have y2 := hv17.cell 2
              have yl := hv17.lt
              have z0 := hb17.cell 0
              have z1 := hb17.cell 1
              have z2 := hb17.cell 2
              have f0 := hb17.frozen 0
              have f1 := hb17.frozen 1
              have f2 := hb17.frozen 2
              have zl := hb17.lt
              clear hv17 hb17
              go_wp2_with fail
              go_roundg (xs.length - (k + 1))
              case measure => rw [HGK.out]; omega
              case rel => exact ⟨k + 1, U, A3, c3, zs, by omega, by omega, by go_num, HKE.out.good, (HU2.out.hold HGB.out).apart HB17.out (tab3_turned _ _ _ _ _), Blk.tab HB17.out, Grew.tab3 (HG4.out.trans HGB.out) HG5W.out _ _ _⟩
    · go_wp2_with fail
      go_ret
      exact ⟨rfl, HG0.out⟩
end Go.Proofs.Ytnlaogneceanoaa
