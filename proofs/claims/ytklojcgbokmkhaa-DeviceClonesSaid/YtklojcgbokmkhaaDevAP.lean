/- Chapter 3: DeviceClones, the walk. -/
import Derived.Test.YtklojcgbokmkhaaDevAO
namespace Go.Proofs.Ytklojcgbokmkhaa
set_option linter.unusedVariables false
set_option linter.unusedSimpArgs false
set_option linter.unusedSectionVars false
open Go.RowKit
open Go.Maps (Keyed)
attribute [local go_sem ↓] Go.wp_at_zero Go.wp_at_succ
/-- An operation of a law's list lies in what was there. -/
theorem op_aside {w w1 : World} {out : Nat → Prop} {o : OpD} (h : okOp w o) (hg : w.heap.size ≤ w1.heap.size) : Aside w1 out o.A o.sv.length := fun hp b off e => .inl (by
  obtain ⟨b', off', e', hb', _⟩ := h.list (by simpa using hp)
  rw [e] at e'
  injection e' with e'
  injection e' with e' _ _
  omega)
set_option maxRecDepth 100000 in
set_option maxHeartbeats 16000000 in
theorem deviceClones_any (c : Nat) (hc : c < 256) (A : Option Addr) (cc : Nat) (l : List OpD) (A2 : Option Addr) (c2 : Nat) (l2 : List OpD) (w : World) (hl : l.length ≤ 9223372036854775807) (hl2 : l2.length ≤ 9223372036854775807) (HV0 : OpsAt w w.heap.size A l) (HU0 : OpsAt w w.heap.size A2 l2) :
    Calls Try.prog 9 #[.int .u8 (c : Int), .slice A l.length cc, .slice A2 l2.length c2] w fun e w' => e = .returned (.bool true) ∧ Grew w w' := by
  have HV := Lib.hid HV0
  have HU := Lib.hid HU0
  have HAW := Lib.hid awake_any
  clear HV0 HU0
  cases hf : fewD l 20 with
  | false =>
    have HFW := Lib.hid hf
    clear hf
    go_enter Try.func9, Try.ntmps9
    go_wp2_with fail
    refine (HAW.out w).mono ?_
    rintro e w1 ⟨rfl, g1⟩
    go_wp2_with fail
    refine (few_any A cc l 20 w1 _ (HV.out.keep (Nat.le_refl _) g1) g1.size hl (by omega)).mono ?_
    rintro e w2 ⟨rfl, rfl⟩
    rw [HFW.out]
    go_wp2_with fail
    refine (HAW.out w1).mono ?_
    rintro e w2 ⟨rfl, g2⟩
    go_wp2_with fail
    go_ret
    exact ⟨rfl, g1.trans g2⟩
  | true =>
    cases hf2 : fewD l2 20 with
    | false =>
      have HFW := Lib.hid hf
      have HFW2 := Lib.hid hf2
      clear hf hf2
      go_enter Try.func9, Try.ntmps9
      go_wp2_with fail
      refine (HAW.out w).mono ?_
      rintro e w1 ⟨rfl, g1⟩
      go_wp2_with fail
      refine (few_any A cc l 20 w1 _ (HV.out.keep (Nat.le_refl _) g1) g1.size hl (by omega)).mono ?_
      rintro e w2 ⟨rfl, rfl⟩
      rw [HFW.out]
      go_wp2_with fail
      refine (few_any A2 c2 l2 20 w1 _ (HU.out.keep (Nat.le_refl _) g1) g1.size hl2 (by omega)).mono ?_
      rintro e w2 ⟨rfl, rfl⟩
      rw [HFW2.out]
      go_wp2_with fail
      refine (HAW.out w1).mono ?_
      rintro e w2 ⟨rfl, g2⟩
      go_wp2_with fail
      go_ret
      exact ⟨rfl, g1.trans g2⟩
    | true =>
      have hl20 := fewD_len hf
      have hl220 := fewD_len hf2
      have HFL := fun k hk => Lib.hid (fewD_at hf (k := k) hk)
      have HFL2 := fun k hk => Lib.hid (fewD_at hf2 (k := k) hk)
      have HFW := Lib.hid hf
      have HFW2 := Lib.hid hf2
      clear hf hf2
      go_enter Try.func9, Try.ntmps9
      go_wp2_with fail
      refine (HAW.out w).mono ?_
      rintro e w1 ⟨rfl, g1⟩
      go_wp2_with fail
      refine (few_any A cc l 20 w1 _ (HV.out.keep (Nat.le_refl _) g1) g1.size hl (by omega)).mono ?_
      rintro e w2 ⟨rfl, rfl⟩
      rw [HFW.out]
      go_wp2_with fail
      refine (few_any A2 c2 l2 20 w1 _ (HU.out.keep (Nat.le_refl _) g1) g1.size hl2 (by omega)).mono ?_
      rintro e w2 ⟨rfl, rfl⟩
      rw [HFW2.out]
      go_wp2_with fail
      refine (begin_any c hc w1).mono ?_
      rintro e w2 ⟨x, p, rfl, hL, hR, hF⟩
      have HL := Lib.hid hL
      have HR := Lib.hid hR
      have HF := Lib.hid hF
      have HG1 := Lib.hid g1
      have hb4 := Blk.new w2 32 #[.slice none 0 0, .slice none 0 0, .slice none 0 0, .slice none 0 0, .bool false, .int .i64 0, .slice none 0 0] rfl
      have hz1 := hL.base.size
      have hz0 := g1.size
      clear hL hR hF g1
      have HP0 := Lib.hid (newD_pend (1 + c % 6))
      obtain ⟨D0, hD0⟩ : ∃ D0, newD (1 + c % 6) = D0 := ⟨_, rfl⟩
      rw [hD0] at HL HR HF HP0 ⊢
      clear hD0
      go_upto_region 4 with (refine wpList_store_blk rfl 32 _ _ rfl w2.heap.size (rv p D0) rfl rfl 32 _ hb4 rfl info_rdev (rv_one _ _) ?_)
      have hb5 := hb4.setRow (rv p D0)
      have hg5 : Grew w2 ((w2.alloc (.cells #[.slice none 0 0, .slice none 0 0, .slice none 0 0, .slice none 0 0, .bool false, .int .i64 0, .slice none 0 0] 32)).setRow w2.heap.size (rv p D0)) := ((Grew.refl w2).alloc (.cells #[.slice none 0 0, .slice none 0 0, .slice none 0 0, .slice none 0 0, .bool false, .int .i64 0, .slice none 0 0] 32)).setRow (Nat.le_refl _) _
      obtain ⟨w5, hw5⟩ : ∃ w5, w5 = (w2.alloc (.cells #[.slice none 0 0, .slice none 0 0, .slice none 0 0, .slice none 0 0, .bool false, .int .i64 0, .slice none 0 0] 32)).setRow w2.heap.size (rv p D0) := ⟨_, rfl⟩
      rw [← hw5] at hb5 hg5 ⊢
      clear hw5 hb4
      obtain ⟨b8, hb8⟩ : ∃ b8, w2.heap.size = b8 := ⟨_, rfl⟩
      have hlt6 := hb5.lt
      have HL5 := Lib.hid ((HL.out.more hg5).few (out' := fun k => p.feet D0 k ∨ k = b8) (fun k hk => hk.elim .inl (fun h => .inr (by omega))))
      have HR5 := Lib.hid (HR.out.grew hg5)
      have HB5 := Lib.hid hb5
      have HG5 := Lib.hid ((HG1.out.trans HL.out.base).trans hg5)
      have HF5 := Lib.hid (show ∀ k, p.feet D0 k → w1.heap.size ≤ k ∧ k ≠ b8 from fun k hk => ⟨HF.out k hk, by have := HR.out.lt k hk; omega⟩)
      have hb81 : w1.heap.size ≤ b8 := by omega
      rw [hb8] at HB5 ⊢
      clear hb5 hg5 hlt6 hb8 HR HF
      go_wp2_with fail
      go_loopg [43] l.length (fun gk iv wr => ∃ (j : Nat) (q : RefP), j ≤ l.length ∧ gk = l.length - j ∧ iv = .int .i64 (j : Int) ∧ Live w1 x (runD D0 (l.take j)) (fun k => q.feet (runD D0 (l.take j)) k ∨ k = b8) wr ∧ RefM wr q (runD D0 (l.take j)) ∧ Blk wr b8 32 (rv q (runD D0 (l.take j))) ∧ (∀ k, q.feet (runD D0 (l.take j)) k → w1.heap.size ≤ k ∧ k ≠ b8) ∧ Grew w wr)
      case atStart => exact ⟨0, p, Nat.zero_le _, rfl, rfl, HL5.out, HR5.out, HB5.out, HF5.out, HG5.out⟩
      case round =>
        obtain ⟨j, q, hj, hgk, rfl, hL, hR, hB, hF, hG⟩ := hrel
        have HGK := Lib.hid hgk
        have HLr := Lib.hid hL
        have HRr := Lib.hid hR
        have HBr := Lib.hid hB
        have HFr := Lib.hid hF
        have HGr := Lib.hid hG
        have hb8r := hB.lt
        have hwr1 := hL.base.size
        clear hgk hL hR hB hF hG
        by_cases hlt : j < l.length
        · obtain ⟨b, off, rfl, hbb, hok, hcs⟩ := (HV.out.keep (Nat.le_refl _) HGr.out).at_ hlt
          have HOW := Lib.hid (HV.out.1 l[j] (List.getElem_mem hlt))
          have HSN := Lib.hid (runD_snoc D0 l j hlt)
          have hpl : (runD D0 (l.take j)).pend.length ≤ 1000 := by
            have h1 := runD_pend D0 (l.take j)
            rw [List.length_take] at h1
            rw [HP0.out, List.length_nil] at h1
            omega
          have hfl := (HFL j hlt).out
          obtain ⟨o, ho⟩ : ∃ o, l[j] = o := ⟨_, rfl⟩
          rw [ho] at hok hcs hfl HSN HOW
          obtain ⟨E, hE⟩ : ∃ E, runD D0 (l.take j) = E := ⟨_, rfl⟩
          rw [hE] at hpl HLr HRr HBr HFr HSN
          have z0 : wr.cell? ⟨b, off + j * 8, none⟩ = some (.int .u8 (o.kind : Int)) := hcs 0 _ rfl
          have z1 := hcs 1 _ rfl
          have z2 := hcs 2 _ rfl
          have z3 := hcs 3 _ rfl
          have z4 := hcs 4 _ rfl
          have z5 := hcs 5 _ rfl
          have z6 := hcs 6 _ rfl
          have z7 := hcs 7 _ rfl
          have hbw : b < wr.heap.size := by have := HGr.out.size; omega
          clear hcs hok ho hE
          obtain ⟨E2, er, hE2⟩ : ∃ E2 er, doD E o = (E2, er) := ⟨_, _, rfl⟩
          rw [hE2] at HSN
          simp only at HSN
          have HE2 := Lib.hid hE2
          clear hE2
          have hva := Blk.new wr 57 (opV o) rfl
          have hga := (Grew.refl wr).alloc (.cells (opV o) 57)
          go_upto_region 9 with fail
          obtain ⟨wa, hwa⟩ : ∃ wa, wa = wr.alloc (.cells (opV o) 57) := ⟨_, rfl⟩
          have hwa' := hwa
          unfold opV at hwa'
          rw [← hwa']
          rw [← hwa] at hva hga
          have hza : wa.heap.size = wr.heap.size + 1 := by rw [hwa]; simp
          have HLa := Lib.hid ((HLr.out.more hga).few (out' := fun k => q.feet E k ∨ k = b8 ∨ k = wr.heap.size) (fun k hk => by
            rcases hk with h | h | h
            · exact .inl (.inl h)
            · exact .inl (.inr h)
            · exact .inr ⟨by omega, by omega⟩))
          have HDL := Lib.hid (do_live HLa.out o (HOW.out.keep (HGr.out.trans hga)) (op_aside HOW.out hz0) (by omega) (by omega))
          rw [HE2.out] at HDL
          simp only at HDL
          have HGA := Lib.hid hga
          obtain ⟨bo, hbo⟩ : ∃ bo, wr.heap.size = bo := ⟨_, rfl⟩
          rw [hbo] at hva HDL ⊢
          have HVA := Lib.hid hva
          have hbo8 : b8 < bo := by omega
          have hbo1 : w1.heap.size ≤ bo := by omega
          clear hwa hwa' z0 z1 z2 z3 z4 z5 z6 z7 hza hga hbo
          go_wp2_with (refine wpList_load_blk rfl 57 _ rfl bo rfl 57 (opV o) _ hva Try.underlying57 rfl info_op ?_)
          refine HDL.out.mono ?_
          rintro e w3 ⟨rfl, hl3, ht3⟩
          have HL3 := Lib.hid hl3
          have HR3 := Lib.hid ((HRr.out.grew HGA.out).turned ht3 (fun k hk h => h.2 (.inl hk)))
          have hb83 := (HBr.out.grew HGA.out).turned ht3 (fun h => h.2 (.inr (.inl rfl)))
          have hva3 := HVA.out.turned ht3 (fun h => h.2 (.inr (.inr rfl)))
          have HG3 := Lib.hid ((HGr.out.trans HGA.out).turn ht3 (fun k hk => by have := hk.1; omega))
          have hb83l := hb83.lt
          have HDO := Lib.hid (rdo_any HR3.out o (HOW.out.keep HG3.out) (by omega) (by omega) (by omega))
          rw [HE2.out] at HDO
          simp only at HDO
          have HB83 := Lib.hid hb83
          clear hva hl3 ht3
          go_wp2_with (first | (refine wpList_load_blk rfl 32 _ rfl b8 rfl 32 (rv q E) _ hb83 Try.underlying32 rfl info_rdev ?_) | (refine wpList_load_blk rfl 57 _ rfl bo rfl 57 (opV o) _ hva3 Try.underlying57 rfl info_op ?_))
          refine HDO.out.mono ?_
          rintro e w4 ⟨q2, rfl, hd4⟩
          have hb84 := hb83.grew hd4.grew
          have HD4 := Lib.hid hd4
          have hz34 := hd4.grew.size
          clear hd4 hb83 hva3
          go_wp2_with (refine wpList_store_blk rfl 32 _ _ rfl b8 (rv q2 E2) rfl rfl 32 _ hb84 rfl info_rdev (rv_one _ _) ?_)
          have HF5' := Lib.hid (show ∀ k, q2.feet E2 k → w1.heap.size ≤ k ∧ k ≠ b8 from fun k hk => by
            rcases HD4.out.feet k hk with h9 | h9
            · exact HFr.out k h9
            · have := HL3.out.base.size; omega)
          have ht7 : Turned (fun k => k = b8) w4 (w4.setRow b8 (rv q2 E2)) := (Turned.refl (fun k => k = b8) w4).setRow (fun _ => rfl) _
          have HL7 := Lib.hid (((HL3.out.more HD4.out.grew).few (out' := fun k => q2.feet E2 k ∨ k = b8) (fun k hk => by
            rcases hk with h | h
            · rcases HD4.out.feet k h with h9 | h9
              · exact .inl (.inl h9)
              · exact .inr ⟨h9, HD4.out.ref.lt k h⟩
            · exact .inl (.inr (.inl h)))).turn (ht7.mono (fun k _ h => .inr h)) (fun k hk => by
            rcases hk with h | h
            · exact (HF5'.out k h).1
            · omega))
          have HB7 := Lib.hid (hb84.setRow (rv q2 E2))
          have HR7 := Lib.hid (HD4.out.ref.turned ht7 (fun k hk h => (HF5'.out k hk).2 h))
          have HG7 := Lib.hid ((HG3.out.trans HD4.out.grew).turn ht7 (fun k hk => by omega))
          clear hb84 ht7
          go_roundg (l.length - (j + 1))
          case measure => rw [HGK.out]; omega
          case rel => exact ⟨j + 1, q2, by omega, by omega, by go_num, by rw [HSN.out]; exact HL7.out, by rw [HSN.out]; exact HR7.out, by rw [HSN.out]; exact HB7.out, by rw [HSN.out]; exact HF5'.out, HG7.out⟩
        · rename World => wr1
          obtain rfl : j = l.length := by omega
          rw [List.take_length] at HLr HRr HBr HFr
          have hp1 : (runD D0 l).pend.length ≤ 20 := by
            have h1 := runD_pend D0 l
            rw [HP0.out, List.length_nil] at h1
            omega
          obtain ⟨E1, hE1⟩ : ∃ E1, runD D0 l = E1 := ⟨_, rfl⟩
          rw [hE1] at HLr HRr HBr HFr hp1
          clear hE1
          have HCL := Lib.hid (clone_live HLr.out (by omega))
          go_wp2_with fail
          refine HCL.out.mono ?_
          rintro e wc ⟨qc, rfl, hdc, hgc, hfc, hlc⟩
          obtain ⟨qd, hqx, hdd, hgd, hfd, hod⟩ := hlc
          have HDC := Lib.hid hdc
          have HGC := Lib.hid hgc
          have HFC := Lib.hid hfc
          have HDD := Lib.hid hdd
          have HFD := Lib.hid hfd
          have HOD := Lib.hid hod
          have HQX := Lib.hid hqx
          have hb8c := HBr.out.grew hgc
          have hzc := hgc.size
          have hbc4 := hb8c.alloc (.cells #[.slice none 0 0, .slice none 0 0, .slice none 0 0, .slice none 0 0, .bool false, .int .i64 0, .slice none 0 0] 32)
          have hbn4 := Blk.new wc 32 #[.slice none 0 0, .slice none 0 0, .slice none 0 0, .slice none 0 0, .bool false, .int .i64 0, .slice none 0 0] rfl
          clear hdc hgc hfc hdd hgd hfd hod hqx
          go_upto_region 16 with (first | (refine wpList_load_blk rfl 32 _ rfl b8 rfl 32 (rv q E1) _ hb8c Try.underlying32 rfl info_rdev ?_) | (refine wpList_store_blk rfl 32 _ _ rfl wc.heap.size (rv q E1) rfl rfl 32 _ hbn4 rfl info_rdev (rv_one _ _) ?_))
          have hg13 : Grew wc ((wc.alloc (.cells #[.slice none 0 0, .slice none 0 0, .slice none 0 0, .slice none 0 0, .bool false, .int .i64 0, .slice none 0 0] 32)).setRow wc.heap.size (rv q E1)) := ((Grew.refl wc).alloc (.cells #[.slice none 0 0, .slice none 0 0, .slice none 0 0, .slice none 0 0, .bool false, .int .i64 0, .slice none 0 0] 32)).setRow (Nat.le_refl _) _
          have hb13 := hbn4.setRow (rv q E1)
          obtain ⟨w13, hw13⟩ : ∃ w13, w13 = (wc.alloc (.cells #[.slice none 0 0, .slice none 0 0, .slice none 0 0, .slice none 0 0, .bool false, .int .i64 0, .slice none 0 0] 32)).setRow wc.heap.size (rv q E1) := ⟨_, rfl⟩
          rw [← hw13] at hb13 hg13 ⊢
          clear hw13 hbc4 hbn4
          obtain ⟨b13, hbe⟩ : ∃ b13, wc.heap.size = b13 := ⟨_, rfl⟩
          have hb13l := hb13.lt
          have HKL := Lib.hid (show ∀ k, (qd.feet k ∨ q.feet E1 k ∨ k = b8) → k < b13 ∧ w1.heap.size ≤ k from fun k hk => by
            rcases hk with h | h | h
            · exact ⟨by have := HDD.out.feet_lt k h; omega, HFD.out k h⟩
            · exact ⟨by have := HRr.out.lt k h; omega, (HFr.out k h).1⟩
            · exact ⟨by omega, by omega⟩)
          have HLC := Lib.hid (show Live w1 qc.x E1 (fun k => q.feet E1 k ∨ k = b13 ∨ (qd.feet k ∨ q.feet E1 k ∨ k = b8)) w13 from ⟨qc, rfl, HDC.out.grew hg13, (HLr.out.base.trans HGC.out).trans hg13, fun k hk => Nat.le_trans hwr1 (HFC.out k hk), fun k hk => by
            have hx : ∀ k, (qd.feet k ∨ q.feet E1 k ∨ k = b8) → k < w13.heap.size ∧ ¬ qc.feet k := fun k hk => ⟨by have := (HKL.out k hk).1; omega, fun hq => by
              rcases hk with h | h | h
              · exact (HOD.out k (.inr hq)).2 h
              · have := HRr.out.lt k h; have := HFC.out k hq; omega
              · have := HFC.out k hq; omega⟩
            rcases hk with h | h | h
            · exact hx k (.inr (.inl h))
            · exact ⟨by omega, fun hq => by have := HDC.out.feet_lt k hq; omega⟩
            · exact hx k h⟩)
          have HR13 := Lib.hid ((HRr.out.grew HGC.out).grew hg13)
          have HB13 := Lib.hid hb13
          have HD13 := Lib.hid (HDD.out.grew hg13)
          have HB813 := Lib.hid (hb8c.grew hg13)
          have HG13 := Lib.hid ((HGr.out.trans HGC.out).trans hg13)
          have HF13 := Lib.hid (show ∀ k, q.feet E1 k → w1.heap.size ≤ k ∧ k ≠ b13 ∧ ¬ qd.feet k from fun k hk => ⟨(HFr.out k hk).1, by have := (HKL.out k (.inr (.inl hk))).1; omega, (HOD.out k (.inl (.inl hk))).2⟩)
          have hb131 : w1.heap.size ≤ b13 := by omega
          rw [hbe] at HB13 ⊢
          clear hb8c hb13 hg13 hbe hb13l
          go_wp2_with fail
          go_loopg [64] l2.length (fun gk iv wr => ∃ (j : Nat) (z : RefP), j ≤ l2.length ∧ gk = l2.length - j ∧ iv = .int .i64 (j : Int) ∧ Live w1 qc.x (runD E1 (l2.take j)) (fun k => z.feet (runD E1 (l2.take j)) k ∨ k = b13 ∨ (qd.feet k ∨ q.feet E1 k ∨ k = b8)) wr ∧ RefM wr z (runD E1 (l2.take j)) ∧ Blk wr b13 32 (rv z (runD E1 (l2.take j))) ∧ (∀ k, z.feet (runD E1 (l2.take j)) k → w1.heap.size ≤ k ∧ k ≠ b13 ∧ ¬ qd.feet k) ∧ (DevM wr qd E1 ∧ RefM wr q E1 ∧ Blk wr b8 32 (rv q E1)) ∧ Grew w wr)
          case atStart => exact ⟨0, q, Nat.zero_le _, rfl, rfl, HLC.out, HR13.out, HB13.out, HF13.out, ⟨HD13.out, HR13.out, HB813.out⟩, HG13.out⟩
          case round =>
            obtain ⟨j2, z, hj2, hgk2, rfl, hL, hR, hB, hF, hK, hG⟩ := hrel
            have HGK2 := Lib.hid hgk2
            have HLy := Lib.hid hL
            have HRy := Lib.hid hR
            have HBy := Lib.hid hB
            have HFy := Lib.hid hF
            have HKy := Lib.hid hK
            have HGy := Lib.hid hG
            have hb13r := hB.lt
            have hwy1 := hL.base.size
            clear hgk2 hL hR hB hF hK hG
            by_cases hlt2 : j2 < l2.length
            · obtain ⟨b, off, rfl, hbb, hok, hcs⟩ := (HU.out.keep (Nat.le_refl _) HGy.out).at_ hlt2
              have HOW := Lib.hid (HU.out.1 l2[j2] (List.getElem_mem hlt2))
              have HSN := Lib.hid (runD_snoc E1 l2 j2 hlt2)
              have hpl : (runD E1 (l2.take j2)).pend.length ≤ 1000 := by
                have h1 := runD_pend E1 (l2.take j2)
                rw [List.length_take] at h1
                omega
              have hfl := (HFL2 j2 hlt2).out
              obtain ⟨o, ho⟩ : ∃ o, l2[j2] = o := ⟨_, rfl⟩
              rw [ho] at hok hcs hfl HSN HOW
              obtain ⟨E, hE⟩ : ∃ E, runD E1 (l2.take j2) = E := ⟨_, rfl⟩
              rw [hE] at hpl HLy HRy HBy HFy HSN
              have z0 : wr.cell? ⟨b, off + j2 * 8, none⟩ = some (.int .u8 (o.kind : Int)) := hcs 0 _ rfl
              have z1 := hcs 1 _ rfl
              have z2 := hcs 2 _ rfl
              have z3 := hcs 3 _ rfl
              have z4 := hcs 4 _ rfl
              have z5 := hcs 5 _ rfl
              have z6 := hcs 6 _ rfl
              have z7 := hcs 7 _ rfl
              have hbw : b < wr.heap.size := by have := HGy.out.size; omega
              clear hcs hok ho hE
              obtain ⟨E2, er, hE2⟩ : ∃ E2 er, doD E o = (E2, er) := ⟨_, _, rfl⟩
              rw [hE2] at HSN
              simp only at HSN
              have HE2 := Lib.hid hE2
              clear hE2
              have hva := Blk.new wr 57 (opV o) rfl
              have hga := (Grew.refl wr).alloc (.cells (opV o) 57)
              go_upto_region 19 with fail
              obtain ⟨wa, hwa⟩ : ∃ wa, wa = wr.alloc (.cells (opV o) 57) := ⟨_, rfl⟩
              have hwa' := hwa
              unfold opV at hwa'
              rw [← hwa']
              rw [← hwa] at hva hga
              have hza : wa.heap.size = wr.heap.size + 1 := by rw [hwa]; simp
              obtain ⟨bo, hbo⟩ : ∃ bo, wr.heap.size = bo := ⟨_, rfl⟩
              have hbol : b13 < bo ∧ w1.heap.size ≤ bo := by omega
              have hwab : bo < wa.heap.size := by omega
              have hba := HBy.out.grew hga
              have HDO := Lib.hid (rdo_any (HRy.out.grew hga) o (HOW.out.keep (HGy.out.trans hga)) (by omega) (by omega) (by omega))
              rw [HE2.out] at HDO
              simp only at HDO
              have HGA := Lib.hid hga
              rw [hbo] at hva ⊢
              clear hwa hwa' z0 z1 z2 z3 z4 z5 z6 z7 hza hga
              go_wp2_with (first | (refine wpList_load_blk rfl 32 _ rfl b13 rfl 32 (rv z E) _ hba Try.underlying32 rfl info_rdev ?_) | (refine wpList_load_blk rfl 57 _ rfl bo rfl 57 (opV o) _ hva Try.underlying57 rfl info_op ?_))
              refine HDO.out.mono ?_
              rintro e w3 ⟨y2, rfl, hd3⟩
              have hbz := Blk.new w3 32 #[.slice none 0 0, .slice none 0 0, .slice none 0 0, .slice none 0 0, .bool false, .int .i64 0, .slice none 0 0] rfl
              have hb3 := hba.grew hd3.grew
              have hva3 := hva.grew hd3.grew
              have HD3 := Lib.hid hd3
              have HG3 := Lib.hid (HGA.out.trans hd3.grew)
              have hz3 := hd3.grew.size
              clear hd3 hba hva
              go_upto_region 20 with (refine wpList_store_blk rfl 32 _ _ rfl w3.heap.size (rv y2 E2) rfl rfl 32 _ hbz rfl info_rdev (rv_one _ _) ?_)
              have hb5 := hbz.setRow (rv y2 E2)
              have hg34 : Grew w3 ((w3.alloc (.cells #[.slice none 0 0, .slice none 0 0, .slice none 0 0, .slice none 0 0, .bool false, .int .i64 0, .slice none 0 0] 32)).setRow w3.heap.size (rv y2 E2)) := ((Grew.refl w3).alloc (.cells #[.slice none 0 0, .slice none 0 0, .slice none 0 0, .slice none 0 0, .bool false, .int .i64 0, .slice none 0 0] 32)).setRow (Nat.le_refl _) _
              obtain ⟨w4, hw4⟩ : ∃ w4, w4 = (w3.alloc (.cells #[.slice none 0 0, .slice none 0 0, .slice none 0 0, .slice none 0 0, .bool false, .int .i64 0, .slice none 0 0] 32)).setRow w3.heap.size (rv y2 E2) := ⟨_, rfl⟩
              rw [← hw4] at hb5 hg34 ⊢
              clear hw4 hbz
              obtain ⟨bz, hbze⟩ : ∃ bz, w3.heap.size = bz := ⟨_, rfl⟩
              have hltz := hb5.lt
              have hgr4 := HG3.out.trans hg34
              have HB4 := Lib.hid (hb3.grew hg34)
              have hva4 := hva3.grew hg34
              have HR4 := Lib.hid (HD3.out.ref.grew hg34)
              have HQF := Lib.hid (show ∀ k, y2.feet E2 k → (z.feet E k ∨ (bo < k ∧ k < bz)) from fun k hk => by
                have h1 := HD3.out.ref.lt k hk
                rcases HD3.out.feet k hk with h9 | h9
                · exact .inl h9
                · exact .inr ⟨by omega, by omega⟩)
              have HL4 := Lib.hid ((HLy.out.more hgr4).few (out' := fun k => y2.feet E2 k ∨ k = b13 ∨ (qd.feet k ∨ q.feet E1 k ∨ k = b8) ∨ k = bz) (fun k hk => by
                rcases hk with hk | hk | hk | hk
                · rcases HQF.out k hk with h9 | h9
                  · exact .inl (.inl h9)
                  · exact .inr ⟨by omega, by omega⟩
                · exact .inl (.inr (.inl hk))
                · exact .inl (.inr (.inr hk))
                · exact .inr ⟨by omega, by omega⟩))
              have HG4 := Lib.hid (HGy.out.trans hgr4)
              have HK4 := Lib.hid (show DevM w4 qd E1 ∧ RefM w4 q E1 ∧ Blk w4 b8 32 (rv q E1) from ⟨HKy.out.1.grew hgr4, HKy.out.2.1.grew hgr4, HKy.out.2.2.grew hgr4⟩)
              have HDL := Lib.hid (do_live HL4.out o (HOW.out.keep HG4.out) (op_aside HOW.out hz0) (by omega) (by omega))
              rw [HE2.out] at HDL
              simp only at HDL
              rw [hbze] at hb5 ⊢
              have HB5 := Lib.hid hb5
              have hgez : w1.heap.size ≤ bz ∧ b13 < bz := by omega
              clear hb3 hva3 hb5 hbze hg34 hgr4 hltz hbo
              go_wp2_with (refine wpList_load_blk rfl 57 _ rfl bo rfl 57 (opV o) _ hva4 Try.underlying57 rfl info_op ?_)
              refine HDL.out.mono ?_
              rintro e w5 ⟨rfl, hl5, ht5⟩
              have HL5' := Lib.hid hl5
              have HR5' := Lib.hid (HR4.out.turned ht5 (fun k hk h => h.2 (.inl hk)))
              have hb10' := HB5.out.turned ht5 (fun h => h.2 (.inr (.inr (.inr rfl))))
              have hb6' := HB4.out.turned ht5 (fun h => h.2 (.inr (.inl rfl)))
              have HK5 := Lib.hid (show DevM w5 qd E1 ∧ RefM w5 q E1 ∧ Blk w5 b8 32 (rv q E1) from ⟨HK4.out.1.aside ht5 (fun k hk => .inr (.inr (.inl (.inl hk)))), HK4.out.2.1.turned ht5 (fun k hk h => h.2 (.inr (.inr (.inl (.inr (.inl hk)))))), HK4.out.2.2.turned ht5 (fun h => h.2 (.inr (.inr (.inl (.inr (.inr rfl))))))⟩)
              have HG5' := Lib.hid (HG4.out.turn ht5 (fun k hk => by have := hk.1; omega))
              clear hl5 ht5 hva4
              go_wp2_with (first | (refine wpList_load_blk rfl 32 _ rfl bz rfl 32 (rv y2 E2) _ hb10' Try.underlying32 rfl info_rdev ?_) | (refine wpList_store_blk rfl 32 _ _ rfl b13 (rv y2 E2) rfl rfl 32 _ hb6' rfl info_rdev (rv_one _ _) ?_))
              have HF7 := Lib.hid (show ∀ k, y2.feet E2 k → w1.heap.size ≤ k ∧ k ≠ b13 ∧ ¬ qd.feet k from fun k hk => by
                rcases HQF.out k hk with h9 | h9
                · exact HFy.out k h9
                · exact ⟨by omega, by omega, fun h => by have := (HKL.out k (.inl h)).1; omega⟩)
              have ht7 : Turned (fun k => k = b13) w5 (w5.setRow b13 (rv y2 E2)) := (Turned.refl (fun k => k = b13) w5).setRow (fun _ => rfl) _
              have HB7 := Lib.hid (hb6'.setRow (rv y2 E2))
              have HL7 := Lib.hid ((HL5'.out.turn (ht7.mono (fun k _ h => .inr (.inl h))) (fun k hk => by
                rcases hk with hk | hk | hk | hk
                · exact (HF7.out k hk).1
                · omega
                · exact (HKL.out k hk).2
                · omega)).few (out' := fun k => y2.feet E2 k ∨ k = b13 ∨ (qd.feet k ∨ q.feet E1 k ∨ k = b8)) (fun k hk => by
                rcases hk with hk | hk | hk
                · exact .inl hk
                · exact .inr (.inl hk)
                · exact .inr (.inr (.inl hk))))
              have HR7 := Lib.hid (HR5'.out.turned ht7 (fun k hk h => (HF7.out k hk).2.1 h))
              have HK7 := Lib.hid (show DevM (w5.setRow b13 (rv y2 E2)) qd E1 ∧ RefM (w5.setRow b13 (rv y2 E2)) q E1 ∧ Blk (w5.setRow b13 (rv y2 E2)) b8 32 (rv q E1) from
                ⟨HK5.out.1.kept ht7 (fun k hk h => by have := (HKL.out k (.inl hk)).1; omega), HK5.out.2.1.turned ht7 (fun k hk h => by have := (HKL.out k (.inr (.inl hk))).1; omega), HK5.out.2.2.turned ht7 (fun h => by have := (HKL.out b8 (.inr (.inr rfl))).1; omega)⟩)
              have HG7 := Lib.hid (HG5'.out.turn ht7 (fun k hk => by omega))
              clear hb10' hb6' ht7
              go_roundg (l2.length - (j2 + 1))
              case measure => rw [HGK2.out]; omega
              case rel => exact ⟨j2 + 1, y2, by omega, by omega, by go_num, by rw [HSN.out]; exact HL7.out, by rw [HSN.out]; exact HR7.out, by rw [HSN.out]; exact HB7.out, by rw [HSN.out]; exact HF7.out, HK7.out, HG7.out⟩
            · rename World => wr2
              obtain rfl : j2 = l2.length := by omega
              rw [List.take_length] at HLy HRy HBy HFy
              have hpF : (runD E1 l2).pend.length ≤ 40 := by
                have h1 := runD_pend E1 l2
                omega
              obtain ⟨F, hF⟩ : ∃ F, runD E1 l2 = F := ⟨_, rfl⟩
              have HFE := Lib.hid hF
              rw [hF] at HLy HRy HBy HFy hpF
              clear hF
              obtain ⟨qF, hqF, hdF, hgF, hfF, hoF⟩ := HLy.out
              have HQF0 := Lib.hid hqF
              have HDF := Lib.hid hdF
              have HFF := Lib.hid hfF
              have HLD := Lib.hid (show Live w1 x E1 (fun k => (z.feet F k ∨ k = b13 ∨ qF.feet k)) wr2 from ⟨qd, HQX.out, HKy.out.1, hgF, HFD.out, fun k hk => by
                rcases hk with h | h | h
                · exact ⟨HRy.out.lt k h, (HFy.out k h).2.2⟩
                · exact ⟨by omega, fun hq => by have := (HKL.out k (.inl hq)).1; omega⟩
                · exact ⟨hdF.feet_lt k h, fun hq => (hoF k (.inr (.inr (.inl hq)))).2 h⟩⟩)
              have HS1 := Lib.hid (same_any HLy.out HRy.out (by omega))
              have HS2 := fun W (hg : Grew wr2 W) => Lib.hid (same_any (HLD.out.grew hg) (HKy.out.2.1.grew hg) (by omega))
              have hbx := HBy.out
              have HBX8 := Lib.hid HKy.out.2.2
              have HRZ := Lib.hid HRy.out
              have HBZ := Lib.hid HBy.out
              unfold rv at hbx HS1 HS2 HBX8
              have x0 := hbx.cell 0
              have x1 := hbx.cell 1
              have x2 := hbx.cell 2
              have x3 := hbx.cell 3
              have x4 := hbx.cell 4
              have x5 := hbx.cell 5
              have x6 := hbx.cell 6
              have hxl := hbx.lt
              clear hqF hdF hgF hfF hoF hbx HRy HBy HLy
              go_wp2_with fail
              refine HS1.out.mono ?_
              rintro e w6 ⟨rfl, g6⟩
              have hb86 := HBX8.out.grew g6
              have y0 := hb86.cell 0
              have y1 := hb86.cell 1
              have y2 := hb86.cell 2
              have y3 := hb86.cell 3
              have y4 := hb86.cell 4
              have y5 := hb86.cell 5
              have y6 := hb86.cell 6
              have hyl := hb86.lt
              have HG6 := Lib.hid g6
              clear hb86 g6 x0 x1 x2 x3 x4 x5 x6 hxl
              go_wp2_with fail
              refine (HS2 w6 HG6.out).out.mono ?_
              rintro e w7 ⟨rfl, g7⟩
              have HG7 := Lib.hid (HG6.out.trans g7)
              clear g7 y0 y1 y2 y3 y4 y5 y6 hyl
              go_wp2_with fail
              go_loopg [93] l2.length (fun gk iv wr => ∃ (j : Nat), j ≤ l2.length ∧ gk = l2.length - j ∧ iv = .int .i64 (j : Int) ∧ Live w1 x (runD E1 (l2.take j)) (fun k => (z.feet F k ∨ k = b13 ∨ qF.feet k)) wr ∧ (RefM wr z F ∧ Blk wr b13 32 (rv z F) ∧ DevM wr qF F) ∧ Grew w wr)
              case atStart => exact ⟨0, Nat.zero_le _, rfl, rfl, HLD.out.grew HG7.out, ⟨HRZ.out.grew HG7.out, HBZ.out.grew HG7.out, HDF.out.grew HG7.out⟩, HGy.out.trans HG7.out⟩
              case round =>
                obtain ⟨j3, hj3, hgk3, rfl, hL, hK, hG⟩ := hrel
                have HGK3 := Lib.hid hgk3
                have HL3r := Lib.hid hL
                have HK3r := Lib.hid hK
                have HG3r := Lib.hid hG
                have hwz1 := hL.base.size
                clear hgk3 hL hK hG
                by_cases hlt3 : j3 < l2.length
                · obtain ⟨b, off, rfl, hbb, hok, hcs⟩ := (HU.out.keep (Nat.le_refl _) HG3r.out).at_ hlt3
                  have HOW := Lib.hid (HU.out.1 l2[j3] (List.getElem_mem hlt3))
                  have HSN := Lib.hid (runD_snoc E1 l2 j3 hlt3)
                  have hpl : (runD E1 (l2.take j3)).pend.length ≤ 1000 := by
                    have h1 := runD_pend E1 (l2.take j3)
                    rw [List.length_take] at h1
                    omega
                  have hfl := (HFL2 j3 hlt3).out
                  obtain ⟨o, ho⟩ : ∃ o, l2[j3] = o := ⟨_, rfl⟩
                  rw [ho] at hok hcs hfl HSN HOW
                  obtain ⟨E, hE⟩ : ∃ E, runD E1 (l2.take j3) = E := ⟨_, rfl⟩
                  rw [hE] at hpl HL3r HSN
                  have z0 : wr.cell? ⟨b, off + j3 * 8, none⟩ = some (.int .u8 (o.kind : Int)) := hcs 0 _ rfl
                  have z1 := hcs 1 _ rfl
                  have z2 := hcs 2 _ rfl
                  have z3 := hcs 3 _ rfl
                  have z4 := hcs 4 _ rfl
                  have z5 := hcs 5 _ rfl
                  have z6 := hcs 6 _ rfl
                  have z7 := hcs 7 _ rfl
                  have hbw : b < wr.heap.size := by have := HG3r.out.size; omega
                  clear hcs hok ho hE
                  obtain ⟨E2, er, hE2⟩ : ∃ E2 er, doD E o = (E2, er) := ⟨_, _, rfl⟩
                  rw [hE2] at HSN
                  simp only at HSN
                  have HE2 := Lib.hid hE2
                  clear hE2
                  have hva := Blk.new wr 57 (opV o) rfl
                  have hga := (Grew.refl wr).alloc (.cells (opV o) 57)
                  go_upto_region 29 with fail
                  obtain ⟨wa, hwa⟩ : ∃ wa, wa = wr.alloc (.cells (opV o) 57) := ⟨_, rfl⟩
                  have hwa' := hwa
                  unfold opV at hwa'
                  rw [← hwa']
                  rw [← hwa] at hva hga
                  obtain ⟨bo, hbo⟩ : ∃ bo, wr.heap.size = bo := ⟨_, rfl⟩
                  have HDL := Lib.hid (do_live (HL3r.out.grew hga) o (HOW.out.keep (HG3r.out.trans hga)) (op_aside HOW.out hz0) (by omega) (by omega))
                  rw [HE2.out] at HDL
                  simp only at HDL
                  have HGA := Lib.hid hga
                  rw [hbo] at hva ⊢
                  clear hwa hwa' z0 z1 z2 z3 z4 z5 z6 z7 hga hbo
                  go_wp2_with (refine wpList_load_blk rfl 57 _ rfl bo rfl 57 (opV o) _ hva Try.underlying57 rfl info_op ?_)
                  refine HDL.out.mono ?_
                  rintro e w8 ⟨rfl, hl8, ht8⟩
                  have HL8 := Lib.hid hl8
                  have HK8 := Lib.hid (show RefM w8 z F ∧ Blk w8 b13 32 (rv z F) ∧ DevM w8 qF F from ⟨(HK3r.out.1.grew HGA.out).turned ht8 (fun k hk h => h.2 (.inl hk)), (HK3r.out.2.1.grew HGA.out).turned ht8 (fun h => h.2 (.inr (.inl rfl))), (HK3r.out.2.2.grew HGA.out).aside ht8 (fun k hk => .inr (.inr hk))⟩)
                  have HG8 := Lib.hid ((HG3r.out.trans HGA.out).turn ht8 (fun k hk => by have := hk.1; omega))
                  clear hva hl8 ht8
                  go_wp2_with fail
                  go_roundg (l2.length - (j3 + 1))
                  case measure => rw [HGK3.out]; omega
                  case rel => exact ⟨j3 + 1, by omega, by omega, by go_num, by rw [HSN.out]; exact HL8.out, HK8.out, HG8.out⟩
                · rename World => wr3
                  obtain rfl : j3 = l2.length := by omega
                  rw [List.take_length, HFE.out] at HL3r
                  have HT1 := Lib.hid (same_any HL3r.out HK3r.out.1 (by omega))
                  have HT2 := fun W (hg : Grew wr3 W) => Lib.hid (same_any (show Live w1 qc.x F (fun _ => False) W from ⟨qF, HQF0.out, HK3r.out.2.2.grew hg, HL3r.out.base.trans hg, HFF.out, fun k hk => hk.elim⟩) (HK3r.out.1.grew hg) (by omega))
                  have HBT := Lib.hid HK3r.out.2.1
                  have hbx := HK3r.out.2.1
                  unfold rv at hbx HT1 HT2 HBT
                  have x0 := hbx.cell 0
                  have x1 := hbx.cell 1
                  have x2 := hbx.cell 2
                  have x3 := hbx.cell 3
                  have x4 := hbx.cell 4
                  have x5 := hbx.cell 5
                  have x6 := hbx.cell 6
                  have hxl := hbx.lt
                  clear hbx
                  go_wp2_with fail
                  refine HT1.out.mono ?_
                  rintro e w9 ⟨rfl, g9⟩
                  have hb9 := HBT.out.grew g9
                  clear x0 x1 x2 x3 x4 x5 x6 hxl
                  have x0 := hb9.cell 0
                  have x1 := hb9.cell 1
                  have x2 := hb9.cell 2
                  have x3 := hb9.cell 3
                  have x4 := hb9.cell 4
                  have x5 := hb9.cell 5
                  have x6 := hb9.cell 6
                  have hxl := hb9.lt
                  have HG9 := Lib.hid g9
                  clear hb9 g9
                  go_wp2_with fail
                  refine (HT2 w9 HG9.out).out.mono ?_
                  rintro e w10 ⟨rfl, g10⟩
                  clear x0 x1 x2 x3 x4 x5 x6 hxl
                  go_wp2_with fail
                  go_ret
                  exact ⟨rfl, (HG3r.out.trans HG9.out).trans g10⟩
end Go.Proofs.Ytklojcgbokmkhaa
