/- Chapter 3: DeviceOperations. -/
import Derived.Test.YtklojcgbokmkhaaDevAE
namespace Go.Proofs.Ytklojcgbokmkhaa
set_option linter.unusedVariables false
set_option linter.unusedSimpArgs false
set_option linter.unusedSectionVars false
open Go.RowKit
open Go.Maps (Keyed)
attribute [local go_sem ↓] Go.wp_at_zero Go.wp_at_succ
theorem doD_pend (D : Dev) (o : OpD) : (doD D o).1.pend.length ≤ D.pend.length + 1 := by
  have hch : ∀ (p : Wr → Bool) (sv : Nat → Nat) (D : Dev), (finishD D p sv).pend.length ≤ D.pend.length := fun p sv D => List.length_filter_le _ _
  have hu : ∀ D : Dev, (useD D).1.pend.length ≤ D.pend.length := fun D => by
    unfold useD
    split
    · exact Nat.le_refl _
    · exact Nat.le_refl _
    · exact List.length_filter_le _ _
  have ha : ∀ (D : Dev) s e, (admitD D s e).1.pend.length ≤ D.pend.length := fun D s e => by
    unfold admitD
    split
    · exact Nat.le_refl _
    · split
      · exact Nat.le_refl _
      · split
        · exact hu D
        · exact hu D
  unfold doD
  split
  · unfold writeD
    split
    · exact Nat.le_succ _
    · split
      · exact Nat.le_succ _
      · split
        · exact Nat.le_succ_of_le (ha _ _ _)
        · show ((admitD D o.sys o.ep).1.pend ++ [_]).length ≤ _
          have := ha D o.sys o.ep
          rw [List.length_append]
          exact Nat.add_le_add_right this 1
  · unfold syncD
    split
    · exact Nat.le_succ _
    · split
      · exact Nat.le_succ_of_le (ha _ _ _)
      · exact Nat.le_succ_of_le (Nat.le_trans (hch _ _ _) (ha _ _ _))
  · exact Nat.le_succ_of_le (hch _ _ _)
  · show (fenceD D o.sys o.ep).pend.length ≤ _
    unfold fenceD
    split <;> exact Nat.le_succ _
  · show (failD D o.n o.sv).pend.length ≤ _
    unfold failD
    split <;> exact Nat.le_succ _
  · exact Nat.le_succ _
  · unfold damageD
    split
    · exact Nat.le_succ _
    · split <;> exact Nat.le_succ _
  · unfold returnD
    split <;> exact Nat.le_succ _
theorem fewD_len {l : List OpD} {n : Nat} (h : fewD l n = true) : l.length ≤ n := by
  unfold fewD at h
  rw [Bool.and_eq_true] at h
  exact of_decide_eq_true h.2
theorem fewD_at {l : List OpD} {n : Nat} (h : fewD l n = true) {k : Nat} (hk : k < l.length) : l[k].data.size ≤ 300 ∧ l[k].sv.length ≤ 100 := by
  unfold fewD at h
  rw [Bool.and_eq_true, List.all_eq_true] at h
  have := h.1 _ (List.getElem_mem hk)
  rw [Bool.and_eq_true] at this
  exact ⟨of_decide_eq_true this.1, of_decide_eq_true this.2⟩
theorem info_op : (Try.prog.info? 57).map (·.size) = some 8 := by kernel_rfl
def runD (D : Dev) (l : List OpD) : Dev := l.foldl (fun D o => (doD D o).1) D
theorem runD_snoc (D : Dev) (l : List OpD) (k : Nat) (hk : k < l.length) : runD D (l.take (k + 1)) = (doD (runD D (l.take k)) l[k]).1 := by
  unfold runD
  rw [List.take_succ_eq_append_getElem hk, List.foldl_append]; rfl
theorem runD_pend (D : Dev) : ∀ l : List OpD, (runD D l).pend.length ≤ D.pend.length + l.length := by
  intro l
  induction l generalizing D with
  | nil => exact Nat.le_refl _
  | cons o l ih =>
    have h1 := ih (doD D o).1
    have h2 := doD_pend D o
    show (runD (doD D o).1 l).pend.length ≤ _
    rw [List.length_cons]
    omega
set_option maxRecDepth 100000 in
set_option maxHeartbeats 8000000 in
theorem deviceOperations_any (c : Nat) (hc : c < 256) (A : Option Addr) (cc : Nat) (l : List OpD) (w : World) (hl : l.length ≤ 9223372036854775807) (HV0 : OpsAt w w.heap.size A l) : Calls Try.prog 8 #[.int .u8 (c : Int), .slice A l.length cc] w fun e w' => e = .returned (.bool true) ∧ Grew w w' := by
  have HV := Lib.hid HV0
  have HAW := Lib.hid awake_any
  clear HV0
  cases hf : fewD l 30 with
  | false =>
    have HFW := Lib.hid hf
    clear hf
    go_enter Try.func8, Try.ntmps8
    go_wp2_with fail
    refine (HAW.out w).mono ?_
    rintro e w1 ⟨rfl, g1⟩
    go_wp2_with fail
    refine (few_any A cc l 30 w1 _ (HV.out.keep (Nat.le_refl _) g1) g1.size hl (by omega)).mono ?_
    rintro e w2 ⟨rfl, rfl⟩
    rw [HFW.out]
    go_wp2_with fail
    refine (HAW.out w1).mono ?_
    rintro e w2 ⟨rfl, g2⟩
    go_wp2_with fail
    go_ret
    exact ⟨rfl, g1.trans g2⟩
  | true =>
    have hl30 := fewD_len hf
    have HFL := fun k hk => Lib.hid (fewD_at hf (k := k) hk)
    have HFW := Lib.hid hf
    clear hf
    go_enter Try.func8, Try.ntmps8
    go_wp2_with fail
    refine (HAW.out w).mono ?_
    rintro e w1 ⟨rfl, g1⟩
    go_wp2_with fail
    refine (few_any A cc l 30 w1 _ (HV.out.keep (Nat.le_refl _) g1) g1.size hl (by omega)).mono ?_
    rintro e w2 ⟨rfl, rfl⟩
    rw [HFW.out]
    go_wp2_with fail
    refine (begin_any c hc w1).mono ?_
    rintro e w2 ⟨x, p, rfl, hL, hR, hF⟩
    have HL := Lib.hid hL
    have HR := Lib.hid hR
    have HF := Lib.hid hF
    have HG1 := Lib.hid g1
    have hb4 := Blk.new w2 32 #[.slice none 0 0, .slice none 0 0, .slice none 0 0, .slice none 0 0, .bool false, .int .i64 0, .slice none 0 0] rfl
    have hz1 := hL.base.size
    have hz0 := g1.size
    clear hL hR hF g1
    have HP0 := Lib.hid (newD_pend (1 + c % 6))
    obtain ⟨D0, hD0⟩ : ∃ D0, newD (1 + c % 6) = D0 := ⟨_, rfl⟩
    rw [hD0] at HL HR HF HP0 ⊢
    clear hD0
    go_upto_region 4 with (refine wpList_store_blk rfl 32 _ _ rfl w2.heap.size (rv p D0) rfl rfl 32 _ hb4 rfl info_rdev (rv_one _ _) ?_)
    have hb5 := hb4.setRow (rv p D0)
    have hg5 : Grew w2 ((w2.alloc (.cells #[.slice none 0 0, .slice none 0 0, .slice none 0 0, .slice none 0 0, .bool false, .int .i64 0, .slice none 0 0] 32)).setRow w2.heap.size (rv p D0)) := ((Grew.refl w2).alloc (.cells #[.slice none 0 0, .slice none 0 0, .slice none 0 0, .slice none 0 0, .bool false, .int .i64 0, .slice none 0 0] 32)).setRow (Nat.le_refl _) _
    obtain ⟨w5, hw5⟩ : ∃ w5, w5 = (w2.alloc (.cells #[.slice none 0 0, .slice none 0 0, .slice none 0 0, .slice none 0 0, .bool false, .int .i64 0, .slice none 0 0] 32)).setRow w2.heap.size (rv p D0) := ⟨_, rfl⟩
    rw [← hw5] at hb5 hg5 ⊢
    clear hw5 hb4
    obtain ⟨b6, hb6⟩ : ∃ b6, w2.heap.size = b6 := ⟨_, rfl⟩
    have hlt6 := hb5.lt
    have HL5 := Lib.hid ((HL.out.more hg5).few (out' := fun k => p.feet D0 k ∨ k = b6) (fun k hk => hk.elim .inl (fun h => .inr (by omega))))
    have HR5 := Lib.hid (HR.out.grew hg5)
    have HB5 := Lib.hid hb5
    have HG5 := Lib.hid ((HG1.out.trans HL.out.base).trans hg5)
    have HF5 := Lib.hid (show ∀ k, p.feet D0 k → w1.heap.size ≤ k ∧ k ≠ b6 from fun k hk => ⟨HF.out k hk, by have := HR.out.lt k hk; omega⟩)
    have hb61 : w1.heap.size ≤ b6 := by omega
    rw [hb6] at HB5 ⊢
    clear hb5 hg5 hlt6 hb6 HR HF
    go_wp2_with fail
    go_loopg [30] l.length (fun gk iv wr => ∃ (j : Nat) (q : RefP), j ≤ l.length ∧ gk = l.length - j ∧ iv = .int .i64 (j : Int) ∧ Live w1 x (runD D0 (l.take j)) (fun k => q.feet (runD D0 (l.take j)) k ∨ k = b6) wr ∧ RefM wr q (runD D0 (l.take j)) ∧ Blk wr b6 32 (rv q (runD D0 (l.take j))) ∧ (∀ k, q.feet (runD D0 (l.take j)) k → w1.heap.size ≤ k ∧ k ≠ b6) ∧ Grew w wr)
    case atStart => exact ⟨0, p, Nat.zero_le _, rfl, rfl, HL5.out, HR5.out, HB5.out, HF5.out, HG5.out⟩
    case round =>
      obtain ⟨j, q, hj, hgk, rfl, hL, hR, hB, hF, hG⟩ := hrel
      have HGK := Lib.hid hgk
      have HLr := Lib.hid hL
      have HRr := Lib.hid hR
      have HBr := Lib.hid hB
      have HFr := Lib.hid hF
      have HGr := Lib.hid hG
      have hb6r := hB.lt
      have hwr1 := hL.base.size
      clear hgk hL hR hB hF hG
      by_cases hlt : j < l.length
      · obtain ⟨b, off, rfl, hbb, hok, hcs⟩ := (HV.out.keep (Nat.le_refl _) HGr.out).at_ hlt
        have HSN := Lib.hid (runD_snoc D0 l j hlt)
        have hpl : (runD D0 (l.take j)).pend.length ≤ 1000 := by
          have h1 := runD_pend D0 (l.take j)
          rw [List.length_take] at h1
          rw [HP0.out, List.length_nil] at h1
          omega
        have hfl := (HFL j hlt).out
        obtain ⟨o, ho⟩ : ∃ o, l[j] = o := ⟨_, rfl⟩
        rw [ho] at hok hcs hfl HSN
        obtain ⟨E, hE⟩ : ∃ E, runD D0 (l.take j) = E := ⟨_, rfl⟩
        rw [hE] at hpl HLr HRr HBr HFr HSN
        have z0 : wr.cell? ⟨b, off + j * 8, none⟩ = some (.int .u8 (o.kind : Int)) := hcs 0 _ rfl
        have z1 := hcs 1 _ rfl
        have z2 := hcs 2 _ rfl
        have z3 := hcs 3 _ rfl
        have z4 := hcs 4 _ rfl
        have z5 := hcs 5 _ rfl
        have z6 := hcs 6 _ rfl
        have z7 := hcs 7 _ rfl
        have HOK := Lib.hid hok
        have hbw : b < wr.heap.size := by have := HGr.out.size; omega
        have HO := Lib.hid ho
        clear hcs hok ho hE
        obtain ⟨E2, er, hE2⟩ : ∃ E2 er, doD E o = (E2, er) := ⟨_, _, rfl⟩
        rw [hE2] at HSN
        simp only at HSN
        have HE2 := Lib.hid hE2
        clear hE2
        have hva := Blk.new wr 57 (opV o) rfl
        have hga := (Grew.refl wr).alloc (.cells (opV o) 57)
        go_upto_region 9 with fail
        obtain ⟨wa, hwa⟩ : ∃ wa, wa = wr.alloc (.cells (opV o) 57) := ⟨_, rfl⟩
        have hwa' := hwa
        unfold opV at hwa'
        rw [← hwa']
        rw [← hwa] at hva hga
        have hza : wa.heap.size = wr.heap.size + 1 := by rw [hwa]; simp
        have HZA := Lib.hid hza
        clear hwa hwa' z0 z1 z2 z3 z4 z5 z6 z7 hza
        have hba := HBr.out.grew hga
        have HDO := Lib.hid (rdo_any (HRr.out.grew hga) o (HOK.out.keep hga) (by omega) (by omega) (by omega))
        rw [HE2.out] at HDO
        simp only at HDO
        have HGA := Lib.hid hga
        go_wp2_with (first | (refine wpList_load_blk rfl 32 _ rfl b6 rfl 32 (rv q E) _ hba Try.underlying32 rfl info_rdev ?_) | (refine wpList_load_blk rfl 57 _ rfl wr.heap.size rfl 57 (opV o) _ hva Try.underlying57 rfl info_op ?_))
        refine HDO.out.mono ?_
        rintro e w3 ⟨q2, rfl, hd3⟩
        have hb4 := Blk.new w3 32 #[.slice none 0 0, .slice none 0 0, .slice none 0 0, .slice none 0 0, .bool false, .int .i64 0, .slice none 0 0] rfl
        have hb3 := hba.grew hd3.grew
        have hva3 := hva.grew hd3.grew
        have HD3 := Lib.hid hd3
        have HGr3 := Lib.hid (HGA.out.trans hd3.grew)
        clear hd3 hba hva hga
        go_upto_region 10 with (refine wpList_store_blk rfl 32 _ _ rfl w3.heap.size (rv q2 E2) rfl rfl 32 _ hb4 rfl info_rdev (rv_one _ _) ?_)
        have hb5 := hb4.setRow (rv q2 E2)
        have hg34 : Grew w3 ((w3.alloc (.cells #[.slice none 0 0, .slice none 0 0, .slice none 0 0, .slice none 0 0, .bool false, .int .i64 0, .slice none 0 0] 32)).setRow w3.heap.size (rv q2 E2)) := ((Grew.refl w3).alloc (.cells #[.slice none 0 0, .slice none 0 0, .slice none 0 0, .slice none 0 0, .bool false, .int .i64 0, .slice none 0 0] 32)).setRow (Nat.le_refl _) _
        obtain ⟨w4, hw4⟩ : ∃ w4, w4 = (w3.alloc (.cells #[.slice none 0 0, .slice none 0 0, .slice none 0 0, .slice none 0 0, .bool false, .int .i64 0, .slice none 0 0] 32)).setRow w3.heap.size (rv q2 E2) := ⟨_, rfl⟩
        rw [← hw4] at hb5 hg34 ⊢
        clear hw4 hb4
        obtain ⟨b10, hb10⟩ : ∃ b10, w3.heap.size = b10 := ⟨_, rfl⟩
        have hlt10 := hb5.lt
        have hgr4 := HGr3.out.trans hg34
        have hz34 := hg34.size
        have hzr3 := HGr3.out.size
        have hza := HZA.out
        have HB4 := Lib.hid (hb3.grew hg34)
        have hva4 := hva3.grew hg34
        have HR4 := Lib.hid (HD3.out.ref.grew hg34)
        have hqf : ∀ k, q2.feet E2 k → (q.feet E k ∨ (wr.heap.size < k ∧ k < b10)) := fun k hk => by
          have h1 := HD3.out.ref.lt k hk
          rcases HD3.out.feet k hk with h9 | h9
          · exact .inl h9
          · exact .inr ⟨by omega, by omega⟩
        have HQF := Lib.hid hqf
        have HL4 := Lib.hid ((HLr.out.more hgr4).few (out' := fun k => q2.feet E2 k ∨ k = b6 ∨ k = b10) (fun k hk => by
          rcases hk with hk | hk | hk
          · rcases hqf k hk with h9 | h9
            · exact .inl (.inl h9)
            · exact .inr ⟨by omega, by omega⟩
          · exact .inl (.inr hk)
          · exact .inr ⟨by omega, by omega⟩))
        have HOK4 := Lib.hid (HOK.out.keep hgr4)
        have HG4 := Lib.hid (HGr.out.trans hgr4)
        have hAs : Aside w1 (fun k => q2.feet E2 k ∨ k = b6 ∨ k = b10) o.A o.sv.length := fun hp b off e => .inl (by
          have hokw := (HV.out.1 l[j] (List.getElem_mem hlt)).list
          rw [HO.out] at hokw
          obtain ⟨b', off', e', hb', _⟩ := hokw (by simpa using hp)
          rw [e] at e'
          injection e' with e'
          injection e' with e' _ _
          omega)
        have HDL := Lib.hid (do_live HL4.out o HOK4.out hAs (by omega) (by omega))
        rw [HE2.out] at HDL
        simp only at HDL
        rw [hb10] at hb5 ⊢
        have HB5 := Lib.hid hb5
        have hge6 : w1.heap.size ≤ b6 := hb61
        have hge10 : w1.heap.size ≤ b10 := by omega
        clear hb3 hva3 hqf hAs hb5 hb10 hg34 hgr4 hlt10
        go_wp2_with (refine wpList_load_blk rfl 57 _ rfl wr.heap.size rfl 57 (opV o) _ hva4 Try.underlying57 rfl info_op ?_)
        refine HDL.out.mono ?_
        rintro e w5 ⟨rfl, hl5, ht5⟩
        have HL5' := Lib.hid hl5
        have HR5' := Lib.hid (HR4.out.turned ht5 (fun k hk h => h.2 (.inl hk)))
        have hb5 := HB5.out.turned ht5 (fun h => h.2 (.inr (.inr rfl)))
        have HB6 := Lib.hid (HB4.out.turned ht5 (fun h => h.2 (.inr (.inl rfl))))
        have HG5' := Lib.hid (HG4.out.turn ht5 (fun k hk => by have := hk.1; omega))
        have HB10 := Lib.hid hb5
        have hpl2 : E2.pend.length ≤ 1001 := by
          have := doD_pend E o
          rw [HE2.out] at this
          simp only at this
          omega
        have HS := Lib.hid (same_any HL5'.out HR5'.out (by omega))
        clear hl5 ht5 hva4
        unfold rv at hb5 HS
        have x0 := hb5.cell 0
        have x1 := hb5.cell 1
        have x2 := hb5.cell 2
        have x3 := hb5.cell 3
        have x4 := hb5.cell 4
        have x5 := hb5.cell 5
        have x6 := hb5.cell 6
        have hxl := hb5.lt
        clear hb5
        go_wp2_with fail
        refine HS.out.mono ?_
        rintro e w6 ⟨rfl, g6⟩
        have hb10' := HB10.out.grew g6
        have hb6' := HB6.out.grew g6
        have HL6 := Lib.hid (HL5'.out.grew g6)
        have HR6 := Lib.hid (HR5'.out.grew g6)
        have HG6 := Lib.hid (HG5'.out.trans g6)
        clear g6 x0 x1 x2 x3 x4 x5 x6 hxl
        go_wp2_with (first | (refine wpList_load_blk rfl 32 _ rfl b10 rfl 32 (rv q2 E2) _ hb10' Try.underlying32 rfl info_rdev ?_) | (refine wpList_store_blk rfl 32 _ _ rfl b6 (rv q2 E2) rfl rfl 32 _ hb6' rfl info_rdev (rv_one _ _) ?_))
        have HF7 := Lib.hid (show ∀ k, q2.feet E2 k → w1.heap.size ≤ k ∧ k ≠ b6 from fun k hk => by
          rcases HQF.out k hk with h9 | h9
          · exact HFr.out k h9
          · omega)
        have ht7 : Turned (fun k => k = b6) w6 (w6.setRow b6 (rv q2 E2)) := (Turned.refl (fun k => k = b6) w6).setRow (fun _ => rfl) _
        have HB7 := Lib.hid (hb6'.setRow (rv q2 E2))
        have HL7 := Lib.hid ((HL6.out.turn (ht7.mono (fun k _ h => .inr (.inl h))) (fun k hk => by
          rcases hk with hk | hk | hk
          · exact (HF7.out k hk).1
          · omega
          · omega)).few (out' := fun k => q2.feet E2 k ∨ k = b6) (fun k hk => hk.elim .inl (fun h => .inr (.inl h))))
        have HR7 := Lib.hid (HR6.out.turned ht7 (fun k hk h => (HF7.out k hk).2 h))
        have HG7 := Lib.hid (HG6.out.turn ht7 (fun k hk => by omega))
        clear hb10' hb6' ht7
        go_roundg (l.length - (j + 1))
        case measure => rw [HGK.out]; omega
        case rel => exact ⟨j + 1, q2, by omega, by omega, by go_num, by rw [HSN.out]; exact HL7.out, by rw [HSN.out]; exact HR7.out, by rw [HSN.out]; exact HB7.out, by rw [HSN.out]; exact HF7.out, HG7.out⟩
      · obtain rfl : j = l.length := by omega
        go_wp2_with fail
        go_ret
        exact ⟨rfl, HGr.out⟩
end Go.Proofs.Ytklojcgbokmkhaa
