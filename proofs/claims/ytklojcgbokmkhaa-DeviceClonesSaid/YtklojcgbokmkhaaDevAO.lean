/- Chapter 3: DeviceFences. -/
import Derived.Test.YtklojcgbokmkhaaDevAN
import Derived.Test.YtklojcgbokmkhaaDevAL
namespace Go.Proofs.Ytklojcgbokmkhaa
set_option linter.unusedVariables false
set_option linter.unusedSimpArgs false
set_option linter.unusedSectionVars false
open Go.RowKit
open Go.Maps (Keyed)
attribute [local go_sem ↓] Go.wp_at_zero Go.wp_at_succ
theorem clone_live {w0 ws : World} {x : Nat} {D : Dev} {out : Nat → Prop} (h : Live w0 x D out ws) (hpl : D.pend.length ≤ 1000000) : Calls Try.prog 25 #[.pointer (some ⟨x, 0, none⟩)] ws fun e w' =>
    ∃ q' : DevP, e = .returned (.pointer (some ⟨q'.x, 0, none⟩)) ∧ DevM w' q' D ∧ Grew ws w' ∧ (∀ k, q'.feet k → ws.heap.size ≤ k) ∧ Live w0 x D (fun k => out k ∨ q'.feet k) w' := by
  obtain ⟨q, hx, hd, hr⟩ := id h
  rw [← hx]
  refine (clone_any hd hpl).mono ?_
  rintro e w' ⟨q', rfl, hd', hg, hf⟩
  refine ⟨q', rfl, hd', hg, hf, ?_⟩
  rw [hx]
  exact (h.more hg).few (fun k hk => hk.elim .inl (fun h => .inr ⟨hf k h, hd'.feet_lt k h⟩))
/-- What stands aside stays. -/
theorem DevM.aside {w0 ws ws' : World} {q : DevP} {D : Dev} {out : Nat → Prop} (h : DevM ws q D) (ht : Beside w0 out ws ws') (ho : ∀ k, q.feet k → out k) : DevM ws' q D := h.kept ht (fun k hk h9 => h9.2 (ho k hk))
/-- The fenced device. -/
def fnD (n : Int) : Dev := fenceD (newD 4) 3 n
theorem fnD_fen {n : Int} (h0 : 0 ≤ n) (h1 : n < 549755813888) : (fnD n).fen 3 = n + 1 ∧ (fnD n).fen 4 = 0 := by
  unfold fnD fenceD clipE newD
  simp
  omega
theorem fn_facts (n : Int) : (fnD n).failed = false ∧ (fnD n).fuse = none ∧ (fnD n).pend = [] ∧ thereD (fnD n) 0 = true := by
  unfold fnD fenceD
  rw [if_neg (by decide)]
  exact ⟨rfl, rfl, rfl, decide_eq_true (show (0 : Int) ≤ 0 ∧ (0 : Int) < ((newD 4).st.length : Int) by simp [newD])⟩
theorem fn_admit {n e : Int} (h0 : 0 ≤ n) (h1 : n < 549755813888) (he : e ≤ n) : admitD (fnD n) 3 e = (fnD n, 13) := by
  have hf : (fnD n).failed = false := by unfold fnD fenceD; rw [if_neg (by decide)]; rfl
  unfold admitD
  rw [if_neg (by rw [hf]; decide), if_pos (by have := (fnD_fen h0 h1).1; omega)]
theorem fn_write {n e : Int} (h0 : 0 ≤ n) (h1 : n < 549755813888) (he : 0 ≤ e ∧ e ≤ n) {s : ByteArray} (hs : s.size = 140) : writeD (fnD n) 3 e 0 s = (fnD n, 13) := by
  have ha := fn_admit h0 h1 he.2
  have ht : thereD (fnD n) 0 = true := (fn_facts n).2.2.2
  unfold writeD
  rw [if_neg (by rw [plainW_of (by omega) (by omega) he.1 (by omega)]; simp [hs]), if_neg (by rw [ht]; decide), ha, if_pos (show (13 : Int) ≠ 0 by decide)]
theorem fn_sync {n e : Int} (h0 : 0 ≤ n) (h1 : n < 549755813888) (he : 0 ≤ e ∧ e ≤ n) : syncD (fnD n) 3 e = (fnD n, 13) := by
  have ha := fn_admit h0 h1 he.2
  unfold syncD
  rw [if_neg (by rw [plainW_of (by omega) (by omega) he.1 (by omega)]; decide), ha, if_pos (show (13 : Int) ≠ 0 by decide)]
theorem fn_one {n : Int} (h0 : 0 ≤ n) (h1 : n < 549755813888) {s : ByteArray} (hs : s.size = 140) : writeD (fnD n) 3 (n + 1) 0 s = ({ fnD n with pend := [⟨3, 0, s⟩] }, 0) := by
  obtain ⟨f1, f2, f3, f4⟩ := fn_facts n
  rw [write_calm f1 f2 (plainW_of (by omega) (by omega) (by omega) (by omega)) hs f4 (by have := (fnD_fen h0 h1).1; omega), f3]
  rfl
theorem fn_two {n : Int} (h0 : 0 ≤ n) (h1 : n < 549755813888) {s : ByteArray} (hs : s.size = 140) : (writeD { fnD n with pend := [⟨3, 0, s⟩] } 4 0 0 s).2 = 0 := by
  obtain ⟨f1, f2, f3, f4⟩ := fn_facts n
  rw [write_calm (D := { fnD n with pend := [⟨3, 0, s⟩] }) f1 f2 (plainW_of (by omega) (by omega) (by omega) (by omega)) hs f4 (by show ¬ (0 : Int) < (fnD n).fen 4; have := (fnD_fen h0 h1).2; omega)]
theorem fn_wait (n : Int) : waitD (fnD n) 3 = 0 := by
  unfold waitD
  rw [(fn_facts n).2.2.1]
  rfl
set_option maxRecDepth 100000 in
set_option maxHeartbeats 8000000 in
theorem deviceFences_any (ep : Nat) (hep : ep < 18446744073709551616) (A : Option Addr) (cc : Nat) (l : List OpD) (w : World) (hl : l.length ≤ 9223372036854775807) (HV0 : OpsAt w w.heap.size A l) : Calls Try.prog 6 #[.int .u64 (ep : Int), .slice A l.length cc] w fun e w' => e = .returned (.bool true) ∧ Grew w w' := by
  have HV := Lib.hid HV0
  have HAW := Lib.hid awake_any
  clear HV0
  cases hf : fewD l 20 with
  | false =>
    have HFW := Lib.hid hf
    clear hf
    go_enter Try.func6, Try.ntmps6
    go_wp2_with fail
    refine (HAW.out w).mono ?_
    rintro e w1 ⟨rfl, g1⟩
    go_wp2_with fail
    refine (few_any A cc l 20 w1 _ (HV.out.keep (Nat.le_refl _) g1) g1.size hl (by omega)).mono ?_
    rintro e w2 ⟨rfl, rfl⟩
    rw [HFW.out]
    go_wp2_with fail
    refine (HAW.out w1).mono ?_
    rintro e w2 ⟨rfl, g2⟩
    go_wp2_with fail
    go_ret
    exact ⟨rfl, g1.trans g2⟩
  | true =>
    have hl20 := fewD_len hf
    have HFW := Lib.hid hf
    clear hf
    go_enter Try.func6, Try.ntmps6
    go_wp2_with fail
    refine (HAW.out w).mono ?_
    rintro e w1 ⟨rfl, g1⟩
    go_wp2_with fail
    refine (few_any A cc l 20 w1 _ (HV.out.keep (Nat.le_refl _) g1) g1.size hl (by omega)).mono ?_
    rintro e w2 ⟨rfl, rfl⟩
    rw [HFW.out]
    go_wp2_with fail
    refine (begin_any 3 (by omega) w1).mono ?_
    rintro e w2 ⟨x, p, rfl, hL, hR, hF⟩
    have hg2 := hL.base
    have hb4 := Blk.new w2 32 #[.slice none 0 0, .slice none 0 0, .slice none 0 0, .slice none 0 0, .bool false, .int .i64 0, .slice none 0 0] rfl
    have HL := Lib.hid (hL.few (out' := fun _ => False) (fun k hk => hk.elim))
    have HG1 := Lib.hid g1
    have hz1 := g1.size
    clear hL hR hF g1
    go_upto_region 4 with (refine wpList_store_blk rfl 32 _ _ rfl w2.heap.size (rv p (newD (1 + 3 % 6))) rfl rfl 32 _ hb4 rfl info_rdev (rv_one _ _) ?_)
    have hg5 : Grew w2 ((w2.alloc (.cells #[.slice none 0 0, .slice none 0 0, .slice none 0 0, .slice none 0 0, .bool false, .int .i64 0, .slice none 0 0] 32)).setRow w2.heap.size (rv p (newD (1 + 3 % 6)))) := ((Grew.refl w2).alloc (.cells #[.slice none 0 0, .slice none 0 0, .slice none 0 0, .slice none 0 0, .bool false, .int .i64 0, .slice none 0 0] 32)).setRow (Nat.le_refl _) _
    obtain ⟨w5, hw5⟩ : ∃ w5, w5 = (w2.alloc (.cells #[.slice none 0 0, .slice none 0 0, .slice none 0 0, .slice none 0 0, .bool false, .int .i64 0, .slice none 0 0] 32)).setRow w2.heap.size (rv p (newD (1 + 3 % 6))) := ⟨_, rfl⟩
    rw [← hw5] at hg5 ⊢
    clear hw5 hb4
    have HL5 := Lib.hid (HL.out.grew hg5)
    rw [show 1 + 3 % 6 = 4 from rfl] at HL5
    have HG5 := Lib.hid ((HG1.out.trans hg2).trans hg5)
    have hge5 := HL5.out.base.size
    clear hg5 hg2 HL
    go_wp2_with fail
    obtain ⟨n, hn⟩ : ∃ n : Int, (ep : Int) % 549755813888 = n := ⟨_, rfl⟩
    have hn0 : 0 ≤ n := by omega
    have hn1 : n < 549755813888 := by omega
    rw [hn]
    clear hn
    refine (fence_live HL5.out 3 n (by unfold okI; omega) (by unfold okI; omega)).mono ?_
    rintro e w6 ⟨rfl, hl6, ht6⟩
    rw [show fenceD (newD 4) 3 n = fnD n from rfl] at hl6
    have HL6 := Lib.hid hl6
    have HG6 := Lib.hid (HG5.out.turn ht6 (fun k hk => by have := hk.1; omega))
    clear hl6 ht6
    go_wp2_with fail
    refine (clone_live HL6.out (by rw [(fn_facts n).2.2.1]; decide)).mono ?_
    rintro e w7 ⟨q', rfl, hd7, hg7, hf7, hl7⟩
    have HL7 := Lib.hid (hl7.few (out' := fun k => q'.feet k) (fun k hk => .inr hk))
    have HD7 := Lib.hid hd7
    have HG7 := Lib.hid (HG6.out.trans hg7)
    have HF7 := Lib.hid (fun k (hk : q'.feet k) => Nat.le_trans HL6.out.base.size (hf7 k hk))
    clear hd7 hg7 hf7 hl7
    go_wp2_with fail
    go_loopg [45] l.length (fun gk iv wr => ∃ j : Nat, j ≤ l.length ∧ gk = l.length - j ∧ iv = .int .i64 (j : Int) ∧ Live w1 x (fnD n) (fun k => q'.feet k) wr ∧ DevM wr q' (fnD n) ∧ Grew w wr)
    case atStart => exact ⟨0, Nat.zero_le _, rfl, rfl, HL7.out, HD7.out, HG7.out⟩
    case round =>
      obtain ⟨j, hj, hgk, rfl, hL, hD, hG⟩ := hrel
      have HGK := Lib.hid hgk
      have HLr := Lib.hid hL
      have HDr := Lib.hid hD
      have HGr := Lib.hid hG
      have hwr1 := hL.base.size
      clear hgk hL hD hG
      by_cases hlt : j < l.length
      · obtain ⟨b, off, rfl, hbb, hok, hcs⟩ := (HV.out.keep (Nat.le_refl _) HGr.out).at_ hlt
        obtain ⟨o, ho⟩ : ∃ o, l[j] = o := ⟨_, rfl⟩
        rw [ho] at hok hcs
        have z0 : wr.cell? ⟨b, off + j * 8, none⟩ = some (.int .u8 (o.kind : Int)) := hcs 0 _ rfl
        have z1 := hcs 1 _ rfl
        have z2 := hcs 2 _ rfl
        have z3 := hcs 3 _ rfl
        have z4 := hcs 4 _ rfl
        have z5 := hcs 5 _ rfl
        have z6 := hcs 6 _ rfl
        have z7 := hcs 7 _ rfl
        have hkd := hok.kind
        have heo : -9223372036854775808 ≤ o.ep ∧ o.ep ≤ 9223372036854775807 := by have := hok.ep; unfold okI at this; omega
        have hds := hok.data
        have hbw : b < wr.heap.size := by have := HGr.out.size; omega
        clear hcs hok ho
        rcases (show o.ep < 0 ∨ (0 ≤ o.ep ∧ n ≤ o.ep) ∨ (0 ≤ o.ep ∧ o.ep < n) by omega) with hc | ⟨hc, hc'⟩ | ⟨hc, hc'⟩
        · go_upto_region 17 with fail
          have hga := ((Grew.refl wr).alloc (.cells (opV o) 57)).alloc (.cells #[.int .i64 3, .int .i64 (n)] 40)
          have hB1 := (Blk.new wr 57 (opV o) rfl).alloc (.cells #[.int .i64 3, .int .i64 (n)] 40)
          have hB2 := Blk.new (wr.alloc (.cells (opV o) 57)) 40 #[.int .i64 3, .int .i64 (n)] (n := wr.heap.size + 1) (by simp)
          obtain ⟨wb, hwb⟩ : ∃ wb, wb = (wr.alloc (.cells (opV o) 57)).alloc (.cells #[.int .i64 3, .int .i64 (n)] 40) := ⟨_, rfl⟩
          have hwb' := hwb
          unfold opV at hwb'
          rw [← hwb']
          rw [← hwb] at hga hB1 hB2
          have hzb : wb.heap.size = wr.heap.size + 2 := by rw [hwb]; simp
          have HLb := Lib.hid ((HLr.out.more hga).few (out' := fun k => q'.feet k ∨ k = wr.heap.size ∨ k = wr.heap.size + 1) (fun k hk => hk.elim .inl (fun h => .inr ⟨by omega, by omega⟩)))
          have HDb := Lib.hid (HDr.out.grew hga)
          have HGb := Lib.hid (HGr.out.trans hga)
          have HEV := Lib.hid (show 0 ≤ (n) ∧ (n) ≤ n by omega)
          have hwrw : w1.heap.size ≤ wr.heap.size := hwr1
          obtain ⟨b1, hb1⟩ : ∃ b1, wr.heap.size = b1 := ⟨_, rfl⟩
          obtain ⟨b2, hb2⟩ : ∃ b2, wr.heap.size + 1 = b2 := ⟨_, rfl⟩
          rw [hb2] at hB2 HLb ⊢
          rw [hb1] at hB1 HLb ⊢
          have HB1 := Lib.hid hB1
          have HB2 := Lib.hid hB2
          have hbb1 : w1.heap.size ≤ b1 := by omega
          have hbb2 : w1.heap.size ≤ b2 := by omega
          have hS0 : (fun w' : World => w'.cell? ⟨b1, 0, none⟩ = some (.int .u8 (o.kind : Int)) ∧ w'.cell? ⟨b1, 4, none⟩ = some (.string o.data) ∧ w'.cell? ⟨b2, 0, none⟩ = some (.int .i64 3) ∧ w'.cell? ⟨b2, 1, none⟩ = some (.int .i64 (n))) wb.drew := ⟨hB1.cell 0, hB1.cell 4, hB2.cell 0, hB2.cell 1⟩
          clear hwb hwb' hB1 hB2 hga hzb hb1 hb2 z0 z1 z2 z3 z4 z5 z6 z7 hc hwrw heo
          go_wp2_with fail
          have HFU := Lib.hid (fun W => full_all o.data W hds)
          have hpn := (fn_facts n).2.2.1
          have HWL := Lib.hid (write_live (HLb.out.grew (Grew.refl wb).drew) 3 (n) 0 (fullS o.data) (by rw [hpn]; decide) (by rw [fullS_size]; decide))
          rw [fn_write hn0 hn1 HEV.out (fullS_size _)] at HWL
          simp only at HWL
          have HSY := Lib.hid (sync_live (HLb.out.grew (Grew.refl wb).drew) 3 (n) (by rw [hpn]; decide))
          rw [fn_sync hn0 hn1 HEV.out] at HSY
          simp only at HSY
          generalize fullS o.data = fs at *
          have hpar : ((o.kind : Int).tmod 2 == 0) = true ∧ ((o.kind : Int).tmod 2 == 1) = false ∨ ((o.kind : Int).tmod 2 == 0) = false ∧ ((o.kind : Int).tmod 2 == 1) = true := by
            rw [Int.tmod_eq_emod_of_nonneg (by omega)]
            rcases (show (o.kind : Int) % 2 = 0 ∨ (o.kind : Int) % 2 = 1 by omega) with h | h <;> rw [h] <;> decide
          clear hpn hkd
          rcases hpar with ⟨hp0, hp1⟩ | ⟨hp0, hp1⟩
          · refine wp_region_R [] (fun w' : World => w'.cell? ⟨b1, 0, none⟩ = some (.int .u8 (o.kind : Int)) ∧ w'.cell? ⟨b1, 4, none⟩ = some (.string o.data) ∧ w'.cell? ⟨b2, 0, none⟩ = some (.int .i64 3) ∧ w'.cell? ⟨b2, 1, none⟩ = some (.int .i64 (n))) (by kernel_rfl) ?_
            have hS := hS0
            refine wpAnyR_takeQ (i := 0) (v := ?_) (some 66) rfl rfl (by kernel_rfl) (by kernel_rfl) (by kernel_rfl) (by kernel_rfl) (fun _ _ _ h => h) (Or.inl ⟨by rfl, ?_⟩) ?_
            rotate_left
            focus (intro wS hSw; (try dsimp only at hSw); go_simp; (try with_reducible rfl); (try (first | (rw [if_pos (by omega)]; (try go_simp); (try with_reducible rfl)) | (rw [if_neg (by omega)]; (try go_simp); (try with_reducible rfl)))))
            try simp only [Act.put, List.setIfInBounds_toArray, List.set_cons_zero, List.set_cons_succ]
            refine wpAnyR_take (i := 1) (v := ?_) [2, 3, 4, 5, 6, 7, 8, 9, 10, 11, 12, 13, 14, 15, 16, 17, 18, 19, 20, 21, 22, 23, 24] (some 67) rfl rfl (by kernel_rfl) (by kernel_rfl) (by kernel_rfl) (by kernel_rfl) (by kernel_rfl) (by kernel_rfl) (by kernel_rfl) (fun _ _ _ h => h) (Or.inl ⟨by rfl, ?_⟩) hS ?_
            rotate_left
            focus (intro wS hSw; (try dsimp only at hSw); go_simp; (try with_reducible rfl); (try (first | (rw [if_pos (by omega)]; (try go_simp); (try with_reducible rfl)) | (rw [if_neg (by omega)]; (try go_simp); (try with_reducible rfl)))))
            try simp only [Act.put, List.setIfInBounds_toArray, List.set_cons_zero, List.set_cons_succ]
            refine wpAnyR_takeQ (i := 2) (v := ?_) (some 68) rfl rfl (by kernel_rfl) (by kernel_rfl) (by kernel_rfl) (by kernel_rfl) (fun _ _ _ h => h) (Or.inl ⟨by rfl, ?_⟩) ?_
            rotate_left
            focus (intro wS hSw; (try dsimp only at hSw); go_simp; (try with_reducible rfl); (try (first | (rw [if_pos (by omega)]; (try go_simp); (try with_reducible rfl)) | (rw [if_neg (by omega)]; (try go_simp); (try with_reducible rfl)))))
            try simp only [Act.put, List.setIfInBounds_toArray, List.set_cons_zero, List.set_cons_succ]
            refine wpAnyR_takeQ (i := 3) (v := ?_) (some 69) rfl rfl (by kernel_rfl) (by kernel_rfl) (by kernel_rfl) (by kernel_rfl) (fun _ _ _ h => h) (Or.inl ⟨by rfl, ?_⟩) ?_
            rotate_left
            focus (intro wS hSw; (try dsimp only at hSw); go_simp; (try with_reducible rfl); (try (first | (rw [if_pos (by omega)]; (try go_simp); (try with_reducible rfl)) | (rw [if_neg (by omega)]; (try go_simp); (try with_reducible rfl)))))
            try simp only [Act.put, List.setIfInBounds_toArray, List.set_cons_zero, List.set_cons_succ]
            refine wpAnyR_takeQ (i := 4) (v := ?_) (some 70) rfl rfl (by kernel_rfl) (by kernel_rfl) (by kernel_rfl) (by kernel_rfl) (fun _ _ _ h => h) (Or.inl ⟨by rfl, ?_⟩) ?_
            rotate_left
            focus (intro wS hSw; (try dsimp only at hSw); go_simp; (try with_reducible rfl); (try (first | (rw [if_pos (by omega)]; (try go_simp); (try with_reducible rfl)) | (rw [if_neg (by omega)]; (try go_simp); (try with_reducible rfl)))))
            try simp only [Act.put, List.setIfInBounds_toArray, List.set_cons_zero, List.set_cons_succ]
            try rw [hp0]
            refine wpAnyR_takeQ (i := 5) (v := ?_) (some 71) rfl rfl (by kernel_rfl) (by kernel_rfl) (by kernel_rfl) (by kernel_rfl) (fun _ _ _ h => h) (Or.inl ⟨by rfl, ?_⟩) ?_
            rotate_left
            focus (intro wS hSw; (try dsimp only at hSw); go_simp; (try with_reducible rfl); (try (first | (rw [if_pos (by omega)]; (try go_simp); (try with_reducible rfl)) | (rw [if_neg (by omega)]; (try go_simp); (try with_reducible rfl)))))
            try simp only [Act.put, List.setIfInBounds_toArray, List.set_cons_zero, List.set_cons_succ]
            refine wpAnyR_take (i := 6) (v := ?_) [10, 11, 12, 13, 14, 15, 16, 17, 18, 19, 20, 21, 22, 23, 24] (some 72) rfl rfl (by kernel_rfl) (by kernel_rfl) (by kernel_rfl) (by kernel_rfl) (by kernel_rfl) (by kernel_rfl) (by kernel_rfl) (fun _ _ _ h => h) (Or.inl ⟨by rfl, ?_⟩) hS ?_
            rotate_left
            focus (intro wS hSw; (try dsimp only at hSw); go_simp; (try with_reducible rfl); (try (first | (rw [if_pos (by omega)]; (try go_simp); (try with_reducible rfl)) | (rw [if_neg (by omega)]; (try go_simp); (try with_reducible rfl)))))
            try simp only [Act.put, List.setIfInBounds_toArray, List.set_cons_zero, List.set_cons_succ]
            refine wpAnyR_takeQ (i := 7) (v := ?_) (some 73) rfl rfl (by kernel_rfl) (by kernel_rfl) (by kernel_rfl) (by kernel_rfl) (fun _ _ _ h => h) (Or.inl ⟨by rfl, ?_⟩) ?_
            rotate_left
            focus (intro wS hSw; (try dsimp only at hSw); go_simp; (try with_reducible rfl); (try (first | (rw [if_pos (by omega)]; (try go_simp); (try with_reducible rfl)) | (rw [if_neg (by omega)]; (try go_simp); (try with_reducible rfl)))))
            try simp only [Act.put, List.setIfInBounds_toArray, List.set_cons_zero, List.set_cons_succ]
            refine wpAnyR_take (i := 8) (v := ?_) [9, 10, 11, 12, 13, 14, 15, 16, 17, 18, 19, 20, 21, 22, 23, 24] (some 74) rfl rfl (by kernel_rfl) (by kernel_rfl) (by kernel_rfl) (by kernel_rfl) (by kernel_rfl) (by kernel_rfl) (by kernel_rfl) (fun _ _ _ h => h) (Or.inl ⟨by rfl, ?_⟩) hS ?_
            rotate_left
            focus (intro wS hSw; (try dsimp only at hSw); go_simp; (try with_reducible rfl); (try (first | (rw [if_pos (by omega)]; (try go_simp); (try with_reducible rfl)) | (rw [if_neg (by omega)]; (try go_simp); (try with_reducible rfl)))))
            try simp only [Act.put, List.setIfInBounds_toArray, List.set_cons_zero, List.set_cons_succ]
            refine wpAnyR_n1 (i := 9) rfl (by kernel_rfl) ?_
            intro K' hK
            rw [if_pos (by rfl)]
            simp only [List.getElem_toArray, List.getElem_cons_succ, List.getElem_cons_zero]
            go_wp2_with fail
            refine (HFU.out wb.drew).mono ?_
            rintro e wc ⟨rfl, rfl⟩
            go_wp2_with fail
            refine hK.out _ _ (.inr (fun h => h)) ?_
            clear hK
            refine wpAnyR_n1 (i := 10) rfl (by kernel_rfl) ?_
            intro K' hK
            rw [if_pos (by rfl)]
            simp only [List.getElem_toArray, List.getElem_cons_succ, List.getElem_cons_zero]
            go_wp2_with fail
            refine HWL.out.mono ?_
            rintro e wd ⟨rfl, hld, htd⟩
            go_wp2_with fail
            have hb1d := HB1.out.drew.turned htd (fun h => h.2 (.inr (.inl rfl)))
            have hb2d := HB2.out.drew.turned htd (fun h => h.2 (.inr (.inr rfl)))
            have HDd := Lib.hid ((HDb.out.grew (Grew.refl wb).drew).aside htd (fun k hk => .inl hk))
            have HGd := Lib.hid (HGb.out.drew.turn htd (fun k hk => by have := hk.1; omega))
            have HLd := Lib.hid (hld.few (out' := fun k => q'.feet k) (fun k hk => .inl hk))
            have hS1 : (fun w' : World => w'.cell? ⟨b1, 0, none⟩ = some (.int .u8 (o.kind : Int)) ∧ w'.cell? ⟨b1, 4, none⟩ = some (.string o.data) ∧ w'.cell? ⟨b2, 0, none⟩ = some (.int .i64 3) ∧ w'.cell? ⟨b2, 1, none⟩ = some (.int .i64 (n))) wd := ⟨hb1d.cell 0, hb1d.cell 4, hb2d.cell 0, hb2d.cell 1⟩
            refine hK.out _ _ (.inr (fun _ => hS1)) ?_
            clear hK hS hS0 hld htd hb1d hb2d
            have hS := hS1
            refine wpAnyR_takeQ (i := 11) (v := ?_) (some 77) rfl rfl (by kernel_rfl) (by kernel_rfl) (by kernel_rfl) (by kernel_rfl) (fun _ _ _ h => h) (Or.inl ⟨by rfl, ?_⟩) ?_
            rotate_left
            focus (intro wS hSw; (try dsimp only at hSw); go_simp; (try with_reducible rfl); (try (first | (rw [if_pos (by omega)]; (try go_simp); (try with_reducible rfl)) | (rw [if_neg (by omega)]; (try go_simp); (try with_reducible rfl)))))
            try simp only [Act.put, List.setIfInBounds_toArray, List.set_cons_zero, List.set_cons_succ]
            refine wpAnyR_takeQ (i := 12) (v := ?_) (some 78) rfl rfl (by kernel_rfl) (by kernel_rfl) (by kernel_rfl) (by kernel_rfl) (fun _ _ _ h => h) (Or.inl ⟨by rfl, ?_⟩) ?_
            rotate_left
            focus (intro wS hSw; (try dsimp only at hSw); go_simp; (try with_reducible rfl); (try (first | (rw [if_pos (by omega)]; (try go_simp); (try with_reducible rfl)) | (rw [if_neg (by omega)]; (try go_simp); (try with_reducible rfl)))))
            try simp only [Act.put, List.setIfInBounds_toArray, List.set_cons_zero, List.set_cons_succ]
            refine wpAnyR_takeQ (i := 13) (v := ?_) (some 79) rfl rfl (by kernel_rfl) (by kernel_rfl) (by kernel_rfl) (by kernel_rfl) (fun _ _ _ h => h) (Or.inl ⟨by rfl, ?_⟩) ?_
            rotate_left
            focus (intro wS hSw; (try dsimp only at hSw); go_simp; (try with_reducible rfl); (try (first | (rw [if_pos (by omega)]; (try go_simp); (try with_reducible rfl)) | (rw [if_neg (by omega)]; (try go_simp); (try with_reducible rfl)))))
            try simp only [Act.put, List.setIfInBounds_toArray, List.set_cons_zero, List.set_cons_succ]
            refine wpAnyR_takeQ (i := 14) (v := ?_) (some 80) rfl rfl (by kernel_rfl) (by kernel_rfl) (by kernel_rfl) (by kernel_rfl) (fun _ _ _ h => h) (Or.inl ⟨by rfl, ?_⟩) ?_
            rotate_left
            focus (intro wS hSw; (try dsimp only at hSw); go_simp; (try with_reducible rfl); (try (first | (rw [if_pos (by omega)]; (try go_simp); (try with_reducible rfl)) | (rw [if_neg (by omega)]; (try go_simp); (try with_reducible rfl)))))
            try simp only [Act.put, List.setIfInBounds_toArray, List.set_cons_zero, List.set_cons_succ]
            refine wpAnyR_take (i := 15) (v := ?_) [16, 17, 18, 19, 20, 21, 22, 23, 24] (some 81) rfl rfl (by kernel_rfl) (by kernel_rfl) (by kernel_rfl) (by kernel_rfl) (by kernel_rfl) (by kernel_rfl) (by kernel_rfl) (fun _ _ _ h => h) (Or.inl ⟨by rfl, ?_⟩) hS ?_
            rotate_left
            focus (intro wS hSw; (try dsimp only at hSw); go_simp; (try with_reducible rfl); (try (first | (rw [if_pos (by omega)]; (try go_simp); (try with_reducible rfl)) | (rw [if_neg (by omega)]; (try go_simp); (try with_reducible rfl)))))
            try simp only [Act.put, List.setIfInBounds_toArray, List.set_cons_zero, List.set_cons_succ]
            refine wpAnyR_takeQ (i := 16) (v := ?_) (some 82) rfl rfl (by kernel_rfl) (by kernel_rfl) (by kernel_rfl) (by kernel_rfl) (fun _ _ _ h => h) (Or.inl ⟨by rfl, ?_⟩) ?_
            rotate_left
            focus (intro wS hSw; (try dsimp only at hSw); go_simp; (try with_reducible rfl); (try (first | (rw [if_pos (by omega)]; (try go_simp); (try with_reducible rfl)) | (rw [if_neg (by omega)]; (try go_simp); (try with_reducible rfl)))))
            try simp only [Act.put, List.setIfInBounds_toArray, List.set_cons_zero, List.set_cons_succ]
            refine wpAnyR_takeQ (i := 17) (v := ?_) (some 83) rfl rfl (by kernel_rfl) (by kernel_rfl) (by kernel_rfl) (by kernel_rfl) (fun _ _ _ h => h) (Or.inl ⟨by rfl, ?_⟩) ?_
            rotate_left
            focus (intro wS hSw; (try dsimp only at hSw); go_simp; (try with_reducible rfl); (try (first | (rw [if_pos (by omega)]; (try go_simp); (try with_reducible rfl)) | (rw [if_neg (by omega)]; (try go_simp); (try with_reducible rfl)))))
            try simp only [Act.put, List.setIfInBounds_toArray, List.set_cons_zero, List.set_cons_succ]
            refine wpAnyR_takeQ (i := 18) (v := ?_) (some 84) rfl rfl (by kernel_rfl) (by kernel_rfl) (by kernel_rfl) (by kernel_rfl) (fun _ _ _ h => h) (Or.inl ⟨by rfl, ?_⟩) ?_
            rotate_left
            focus (intro wS hSw; (try dsimp only at hSw); go_simp; (try with_reducible rfl); (try (first | (rw [if_pos (by omega)]; (try go_simp); (try with_reducible rfl)) | (rw [if_neg (by omega)]; (try go_simp); (try with_reducible rfl)))))
            try simp only [Act.put, List.setIfInBounds_toArray, List.set_cons_zero, List.set_cons_succ]
            try rw [hp1]
            refine wpAnyR_takeQ (i := 19) (v := undef) (some 85) rfl rfl (by kernel_rfl) (by kernel_rfl) (by kernel_rfl) (by kernel_rfl) (fun _ _ _ h => h) (Or.inr ⟨by rfl, rfl⟩) ?_
            try simp only [Act.put, List.setIfInBounds_toArray, List.set_cons_zero, List.set_cons_succ]
            refine wpAnyR_takeQ (i := 20) (v := undef) (some 86) rfl rfl (by kernel_rfl) (by kernel_rfl) (by kernel_rfl) (by kernel_rfl) (fun _ _ _ h => h) (Or.inr ⟨by rfl, rfl⟩) ?_
            try simp only [Act.put, List.setIfInBounds_toArray, List.set_cons_zero, List.set_cons_succ]
            refine wpAnyR_takeQ (i := 21) (v := undef) (some 87) rfl rfl (by kernel_rfl) (by kernel_rfl) (by kernel_rfl) (by kernel_rfl) (fun _ _ _ h => h) (Or.inr ⟨by rfl, rfl⟩) ?_
            try simp only [Act.put, List.setIfInBounds_toArray, List.set_cons_zero, List.set_cons_succ]
            refine wpAnyR_takeQ (i := 22) (v := undef) (some 88) rfl rfl (by kernel_rfl) (by kernel_rfl) (by kernel_rfl) (by kernel_rfl) (fun _ _ _ h => h) (Or.inr ⟨by rfl, rfl⟩) ?_
            try simp only [Act.put, List.setIfInBounds_toArray, List.set_cons_zero, List.set_cons_succ]
            refine wpAnyR_takeQ (i := 23) (v := ?_) (some 89) rfl rfl (by kernel_rfl) (by kernel_rfl) (by kernel_rfl) (by kernel_rfl) (fun _ _ _ h => h) (Or.inl ⟨by rfl, ?_⟩) ?_
            rotate_left
            focus (intro wS hSw; (try dsimp only at hSw); go_simp; (try with_reducible rfl); (try (first | (rw [if_pos (by omega)]; (try go_simp); (try with_reducible rfl)) | (rw [if_neg (by omega)]; (try go_simp); (try with_reducible rfl)))))
            try simp only [Act.put, List.setIfInBounds_toArray, List.set_cons_zero, List.set_cons_succ]
            refine wpAnyR_takeQ (i := 24) (v := ?_) (some 90) rfl rfl (by kernel_rfl) (by kernel_rfl) (by kernel_rfl) (by kernel_rfl) (fun _ _ _ h => h) (Or.inl ⟨by rfl, ?_⟩) ?_
            rotate_left
            focus (intro wS hSw; (try dsimp only at hSw); go_simp; (try with_reducible rfl); (try (first | (rw [if_pos (by omega)]; (try go_simp); (try with_reducible rfl)) | (rw [if_neg (by omega)]; (try go_simp); (try with_reducible rfl)))))
            try simp only [Act.put, List.setIfInBounds_toArray, List.set_cons_zero, List.set_cons_succ]
            refine wpAnyR_done (by kernel_rfl) ?_ _
            clear hS hS1
            go_wp2_with fail
            go_roundg (l.length - (j + 1))
            case measure => rw [HGK.out]; omega
            case rel => exact ⟨j + 1, by omega, by omega, by go_num, HLd.out, HDd.out, HGd.out⟩
          · refine wp_region_R [] (fun w' : World => w'.cell? ⟨b1, 0, none⟩ = some (.int .u8 (o.kind : Int)) ∧ w'.cell? ⟨b1, 4, none⟩ = some (.string o.data) ∧ w'.cell? ⟨b2, 0, none⟩ = some (.int .i64 3) ∧ w'.cell? ⟨b2, 1, none⟩ = some (.int .i64 (n))) (by kernel_rfl) ?_
            have hS := hS0
            refine wpAnyR_takeQ (i := 0) (v := ?_) (some 66) rfl rfl (by kernel_rfl) (by kernel_rfl) (by kernel_rfl) (by kernel_rfl) (fun _ _ _ h => h) (Or.inl ⟨by rfl, ?_⟩) ?_
            rotate_left
            focus (intro wS hSw; (try dsimp only at hSw); go_simp; (try with_reducible rfl); (try (first | (rw [if_pos (by omega)]; (try go_simp); (try with_reducible rfl)) | (rw [if_neg (by omega)]; (try go_simp); (try with_reducible rfl)))))
            try simp only [Act.put, List.setIfInBounds_toArray, List.set_cons_zero, List.set_cons_succ]
            refine wpAnyR_take (i := 1) (v := ?_) [2, 3, 4, 5, 6, 7, 8, 9, 10, 11, 12, 13, 14, 15, 16, 17, 18, 19, 20, 21, 22, 23, 24] (some 67) rfl rfl (by kernel_rfl) (by kernel_rfl) (by kernel_rfl) (by kernel_rfl) (by kernel_rfl) (by kernel_rfl) (by kernel_rfl) (fun _ _ _ h => h) (Or.inl ⟨by rfl, ?_⟩) hS ?_
            rotate_left
            focus (intro wS hSw; (try dsimp only at hSw); go_simp; (try with_reducible rfl); (try (first | (rw [if_pos (by omega)]; (try go_simp); (try with_reducible rfl)) | (rw [if_neg (by omega)]; (try go_simp); (try with_reducible rfl)))))
            try simp only [Act.put, List.setIfInBounds_toArray, List.set_cons_zero, List.set_cons_succ]
            refine wpAnyR_takeQ (i := 2) (v := ?_) (some 68) rfl rfl (by kernel_rfl) (by kernel_rfl) (by kernel_rfl) (by kernel_rfl) (fun _ _ _ h => h) (Or.inl ⟨by rfl, ?_⟩) ?_
            rotate_left
            focus (intro wS hSw; (try dsimp only at hSw); go_simp; (try with_reducible rfl); (try (first | (rw [if_pos (by omega)]; (try go_simp); (try with_reducible rfl)) | (rw [if_neg (by omega)]; (try go_simp); (try with_reducible rfl)))))
            try simp only [Act.put, List.setIfInBounds_toArray, List.set_cons_zero, List.set_cons_succ]
            refine wpAnyR_takeQ (i := 3) (v := ?_) (some 69) rfl rfl (by kernel_rfl) (by kernel_rfl) (by kernel_rfl) (by kernel_rfl) (fun _ _ _ h => h) (Or.inl ⟨by rfl, ?_⟩) ?_
            rotate_left
            focus (intro wS hSw; (try dsimp only at hSw); go_simp; (try with_reducible rfl); (try (first | (rw [if_pos (by omega)]; (try go_simp); (try with_reducible rfl)) | (rw [if_neg (by omega)]; (try go_simp); (try with_reducible rfl)))))
            try simp only [Act.put, List.setIfInBounds_toArray, List.set_cons_zero, List.set_cons_succ]
            refine wpAnyR_takeQ (i := 4) (v := ?_) (some 70) rfl rfl (by kernel_rfl) (by kernel_rfl) (by kernel_rfl) (by kernel_rfl) (fun _ _ _ h => h) (Or.inl ⟨by rfl, ?_⟩) ?_
            rotate_left
            focus (intro wS hSw; (try dsimp only at hSw); go_simp; (try with_reducible rfl); (try (first | (rw [if_pos (by omega)]; (try go_simp); (try with_reducible rfl)) | (rw [if_neg (by omega)]; (try go_simp); (try with_reducible rfl)))))
            try simp only [Act.put, List.setIfInBounds_toArray, List.set_cons_zero, List.set_cons_succ]
            try rw [hp0]
            refine wpAnyR_takeQ (i := 5) (v := undef) (some 71) rfl rfl (by kernel_rfl) (by kernel_rfl) (by kernel_rfl) (by kernel_rfl) (fun _ _ _ h => h) (Or.inr ⟨by rfl, rfl⟩) ?_
            try simp only [Act.put, List.setIfInBounds_toArray, List.set_cons_zero, List.set_cons_succ]
            refine wpAnyR_takeQ (i := 6) (v := undef) (some 72) rfl rfl (by kernel_rfl) (by kernel_rfl) (by kernel_rfl) (by kernel_rfl) (fun _ _ _ h => h) (Or.inr ⟨by rfl, rfl⟩) ?_
            try simp only [Act.put, List.setIfInBounds_toArray, List.set_cons_zero, List.set_cons_succ]
            refine wpAnyR_takeQ (i := 7) (v := undef) (some 73) rfl rfl (by kernel_rfl) (by kernel_rfl) (by kernel_rfl) (by kernel_rfl) (fun _ _ _ h => h) (Or.inr ⟨by rfl, rfl⟩) ?_
            try simp only [Act.put, List.setIfInBounds_toArray, List.set_cons_zero, List.set_cons_succ]
            refine wpAnyR_takeQ (i := 8) (v := undef) (some 74) rfl rfl (by kernel_rfl) (by kernel_rfl) (by kernel_rfl) (by kernel_rfl) (fun _ _ _ h => h) (Or.inr ⟨by rfl, rfl⟩) ?_
            try simp only [Act.put, List.setIfInBounds_toArray, List.set_cons_zero, List.set_cons_succ]
            refine wpAnyR_takeQ (i := 9) (v := undef) (some 75) rfl rfl (by kernel_rfl) (by kernel_rfl) (by kernel_rfl) (by kernel_rfl) (fun _ _ _ h => h) (Or.inr ⟨by rfl, rfl⟩) ?_
            try simp only [Act.put, List.setIfInBounds_toArray, List.set_cons_zero, List.set_cons_succ]
            refine wpAnyR_takeQ (i := 10) (v := undef) (some 76) rfl rfl (by kernel_rfl) (by kernel_rfl) (by kernel_rfl) (by kernel_rfl) (fun _ _ _ h => h) (Or.inr ⟨by rfl, rfl⟩) ?_
            try simp only [Act.put, List.setIfInBounds_toArray, List.set_cons_zero, List.set_cons_succ]
            refine wpAnyR_takeQ (i := 11) (v := undef) (some 77) rfl rfl (by kernel_rfl) (by kernel_rfl) (by kernel_rfl) (by kernel_rfl) (fun _ _ _ h => h) (Or.inr ⟨by rfl, rfl⟩) ?_
            try simp only [Act.put, List.setIfInBounds_toArray, List.set_cons_zero, List.set_cons_succ]
            refine wpAnyR_takeQ (i := 12) (v := ?_) (some 78) rfl rfl (by kernel_rfl) (by kernel_rfl) (by kernel_rfl) (by kernel_rfl) (fun _ _ _ h => h) (Or.inl ⟨by rfl, ?_⟩) ?_
            rotate_left
            focus (intro wS hSw; (try dsimp only at hSw); go_simp; (try with_reducible rfl); (try (first | (rw [if_pos (by omega)]; (try go_simp); (try with_reducible rfl)) | (rw [if_neg (by omega)]; (try go_simp); (try with_reducible rfl)))))
            try simp only [Act.put, List.setIfInBounds_toArray, List.set_cons_zero, List.set_cons_succ]
            refine wpAnyR_takeQ (i := 13) (v := ?_) (some 79) rfl rfl (by kernel_rfl) (by kernel_rfl) (by kernel_rfl) (by kernel_rfl) (fun _ _ _ h => h) (Or.inl ⟨by rfl, ?_⟩) ?_
            rotate_left
            focus (intro wS hSw; (try dsimp only at hSw); go_simp; (try with_reducible rfl); (try (first | (rw [if_pos (by omega)]; (try go_simp); (try with_reducible rfl)) | (rw [if_neg (by omega)]; (try go_simp); (try with_reducible rfl)))))
            try simp only [Act.put, List.setIfInBounds_toArray, List.set_cons_zero, List.set_cons_succ]
            refine wpAnyR_takeQ (i := 14) (v := ?_) (some 80) rfl rfl (by kernel_rfl) (by kernel_rfl) (by kernel_rfl) (by kernel_rfl) (fun _ _ _ h => h) (Or.inl ⟨by rfl, ?_⟩) ?_
            rotate_left
            focus (intro wS hSw; (try dsimp only at hSw); go_simp; (try with_reducible rfl); (try (first | (rw [if_pos (by omega)]; (try go_simp); (try with_reducible rfl)) | (rw [if_neg (by omega)]; (try go_simp); (try with_reducible rfl)))))
            try simp only [Act.put, List.setIfInBounds_toArray, List.set_cons_zero, List.set_cons_succ]
            refine wpAnyR_take (i := 15) (v := ?_) [16, 17, 18, 19, 20, 21, 22, 23, 24] (some 81) rfl rfl (by kernel_rfl) (by kernel_rfl) (by kernel_rfl) (by kernel_rfl) (by kernel_rfl) (by kernel_rfl) (by kernel_rfl) (fun _ _ _ h => h) (Or.inl ⟨by rfl, ?_⟩) hS ?_
            rotate_left
            focus (intro wS hSw; (try dsimp only at hSw); go_simp; (try with_reducible rfl); (try (first | (rw [if_pos (by omega)]; (try go_simp); (try with_reducible rfl)) | (rw [if_neg (by omega)]; (try go_simp); (try with_reducible rfl)))))
            try simp only [Act.put, List.setIfInBounds_toArray, List.set_cons_zero, List.set_cons_succ]
            refine wpAnyR_takeQ (i := 16) (v := ?_) (some 82) rfl rfl (by kernel_rfl) (by kernel_rfl) (by kernel_rfl) (by kernel_rfl) (fun _ _ _ h => h) (Or.inl ⟨by rfl, ?_⟩) ?_
            rotate_left
            focus (intro wS hSw; (try dsimp only at hSw); go_simp; (try with_reducible rfl); (try (first | (rw [if_pos (by omega)]; (try go_simp); (try with_reducible rfl)) | (rw [if_neg (by omega)]; (try go_simp); (try with_reducible rfl)))))
            try simp only [Act.put, List.setIfInBounds_toArray, List.set_cons_zero, List.set_cons_succ]
            refine wpAnyR_takeQ (i := 17) (v := ?_) (some 83) rfl rfl (by kernel_rfl) (by kernel_rfl) (by kernel_rfl) (by kernel_rfl) (fun _ _ _ h => h) (Or.inl ⟨by rfl, ?_⟩) ?_
            rotate_left
            focus (intro wS hSw; (try dsimp only at hSw); go_simp; (try with_reducible rfl); (try (first | (rw [if_pos (by omega)]; (try go_simp); (try with_reducible rfl)) | (rw [if_neg (by omega)]; (try go_simp); (try with_reducible rfl)))))
            try simp only [Act.put, List.setIfInBounds_toArray, List.set_cons_zero, List.set_cons_succ]
            refine wpAnyR_takeQ (i := 18) (v := ?_) (some 84) rfl rfl (by kernel_rfl) (by kernel_rfl) (by kernel_rfl) (by kernel_rfl) (fun _ _ _ h => h) (Or.inl ⟨by rfl, ?_⟩) ?_
            rotate_left
            focus (intro wS hSw; (try dsimp only at hSw); go_simp; (try with_reducible rfl); (try (first | (rw [if_pos (by omega)]; (try go_simp); (try with_reducible rfl)) | (rw [if_neg (by omega)]; (try go_simp); (try with_reducible rfl)))))
            try simp only [Act.put, List.setIfInBounds_toArray, List.set_cons_zero, List.set_cons_succ]
            try rw [hp1]
            refine wpAnyR_takeQ (i := 19) (v := ?_) (some 85) rfl rfl (by kernel_rfl) (by kernel_rfl) (by kernel_rfl) (by kernel_rfl) (fun _ _ _ h => h) (Or.inl ⟨by rfl, ?_⟩) ?_
            rotate_left
            focus (intro wS hSw; (try dsimp only at hSw); go_simp; (try with_reducible rfl); (try (first | (rw [if_pos (by omega)]; (try go_simp); (try with_reducible rfl)) | (rw [if_neg (by omega)]; (try go_simp); (try with_reducible rfl)))))
            try simp only [Act.put, List.setIfInBounds_toArray, List.set_cons_zero, List.set_cons_succ]
            refine wpAnyR_take (i := 20) (v := ?_) [21, 22, 23, 24] (some 86) rfl rfl (by kernel_rfl) (by kernel_rfl) (by kernel_rfl) (by kernel_rfl) (by kernel_rfl) (by kernel_rfl) (by kernel_rfl) (fun _ _ _ h => h) (Or.inl ⟨by rfl, ?_⟩) hS ?_
            rotate_left
            focus (intro wS hSw; (try dsimp only at hSw); go_simp; (try with_reducible rfl); (try (first | (rw [if_pos (by omega)]; (try go_simp); (try with_reducible rfl)) | (rw [if_neg (by omega)]; (try go_simp); (try with_reducible rfl)))))
            try simp only [Act.put, List.setIfInBounds_toArray, List.set_cons_zero, List.set_cons_succ]
            refine wpAnyR_n1 (i := 21) rfl (by kernel_rfl) ?_
            intro K' hK
            rw [if_pos (by rfl)]
            simp only [List.getElem_toArray, List.getElem_cons_succ, List.getElem_cons_zero]
            go_wp2_with fail
            refine HSY.out.mono ?_
            rintro e wd ⟨rfl, hld, htd⟩
            go_wp2_with fail
            have hb1d := HB1.out.drew.turned htd (fun h => h.2 (.inr (.inl rfl)))
            have hb2d := HB2.out.drew.turned htd (fun h => h.2 (.inr (.inr rfl)))
            have HDd := Lib.hid ((HDb.out.grew (Grew.refl wb).drew).aside htd (fun k hk => .inl hk))
            have HGd := Lib.hid (HGb.out.drew.turn htd (fun k hk => by have := hk.1; omega))
            have HLd := Lib.hid (hld.few (out' := fun k => q'.feet k) (fun k hk => .inl hk))
            have hS1 : (fun w' : World => w'.cell? ⟨b1, 0, none⟩ = some (.int .u8 (o.kind : Int)) ∧ w'.cell? ⟨b1, 4, none⟩ = some (.string o.data) ∧ w'.cell? ⟨b2, 0, none⟩ = some (.int .i64 3) ∧ w'.cell? ⟨b2, 1, none⟩ = some (.int .i64 (n))) wd := ⟨hb1d.cell 0, hb1d.cell 4, hb2d.cell 0, hb2d.cell 1⟩
            refine hK.out _ _ (.inr (fun _ => hS1)) ?_
            clear hK hS hS0 hld htd hb1d hb2d
            have hS := hS1
            refine wpAnyR_takeQ (i := 22) (v := ?_) (some 88) rfl rfl (by kernel_rfl) (by kernel_rfl) (by kernel_rfl) (by kernel_rfl) (fun _ _ _ h => h) (Or.inl ⟨by rfl, ?_⟩) ?_
            rotate_left
            focus (intro wS hSw; (try dsimp only at hSw); go_simp; (try with_reducible rfl); (try (first | (rw [if_pos (by omega)]; (try go_simp); (try with_reducible rfl)) | (rw [if_neg (by omega)]; (try go_simp); (try with_reducible rfl)))))
            try simp only [Act.put, List.setIfInBounds_toArray, List.set_cons_zero, List.set_cons_succ]
            refine wpAnyR_takeQ (i := 23) (v := ?_) (some 89) rfl rfl (by kernel_rfl) (by kernel_rfl) (by kernel_rfl) (by kernel_rfl) (fun _ _ _ h => h) (Or.inl ⟨by rfl, ?_⟩) ?_
            rotate_left
            focus (intro wS hSw; (try dsimp only at hSw); go_simp; (try with_reducible rfl); (try (first | (rw [if_pos (by omega)]; (try go_simp); (try with_reducible rfl)) | (rw [if_neg (by omega)]; (try go_simp); (try with_reducible rfl)))))
            try simp only [Act.put, List.setIfInBounds_toArray, List.set_cons_zero, List.set_cons_succ]
            refine wpAnyR_takeQ (i := 24) (v := ?_) (some 90) rfl rfl (by kernel_rfl) (by kernel_rfl) (by kernel_rfl) (by kernel_rfl) (fun _ _ _ h => h) (Or.inl ⟨by rfl, ?_⟩) ?_
            rotate_left
            focus (intro wS hSw; (try dsimp only at hSw); go_simp; (try with_reducible rfl); (try (first | (rw [if_pos (by omega)]; (try go_simp); (try with_reducible rfl)) | (rw [if_neg (by omega)]; (try go_simp); (try with_reducible rfl)))))
            try simp only [Act.put, List.setIfInBounds_toArray, List.set_cons_zero, List.set_cons_succ]
            refine wpAnyR_done (by kernel_rfl) ?_ _
            clear hS hS1
            go_wp2_with fail
            go_roundg (l.length - (j + 1))
            case measure => rw [HGK.out]; omega
            case rel => exact ⟨j + 1, by omega, by omega, by go_num, HLd.out, HDd.out, HGd.out⟩
        · go_upto_region 17 with fail
          have hga := ((Grew.refl wr).alloc (.cells (opV o) 57)).alloc (.cells #[.int .i64 3, .int .i64 (n)] 40)
          have hB1 := (Blk.new wr 57 (opV o) rfl).alloc (.cells #[.int .i64 3, .int .i64 (n)] 40)
          have hB2 := Blk.new (wr.alloc (.cells (opV o) 57)) 40 #[.int .i64 3, .int .i64 (n)] (n := wr.heap.size + 1) (by simp)
          obtain ⟨wb, hwb⟩ : ∃ wb, wb = (wr.alloc (.cells (opV o) 57)).alloc (.cells #[.int .i64 3, .int .i64 (n)] 40) := ⟨_, rfl⟩
          have hwb' := hwb
          unfold opV at hwb'
          rw [← hwb']
          rw [← hwb] at hga hB1 hB2
          have hzb : wb.heap.size = wr.heap.size + 2 := by rw [hwb]; simp
          have HLb := Lib.hid ((HLr.out.more hga).few (out' := fun k => q'.feet k ∨ k = wr.heap.size ∨ k = wr.heap.size + 1) (fun k hk => hk.elim .inl (fun h => .inr ⟨by omega, by omega⟩)))
          have HDb := Lib.hid (HDr.out.grew hga)
          have HGb := Lib.hid (HGr.out.trans hga)
          have HEV := Lib.hid (show 0 ≤ (n) ∧ (n) ≤ n by omega)
          have hwrw : w1.heap.size ≤ wr.heap.size := hwr1
          obtain ⟨b1, hb1⟩ : ∃ b1, wr.heap.size = b1 := ⟨_, rfl⟩
          obtain ⟨b2, hb2⟩ : ∃ b2, wr.heap.size + 1 = b2 := ⟨_, rfl⟩
          rw [hb2] at hB2 HLb ⊢
          rw [hb1] at hB1 HLb ⊢
          have HB1 := Lib.hid hB1
          have HB2 := Lib.hid hB2
          have hbb1 : w1.heap.size ≤ b1 := by omega
          have hbb2 : w1.heap.size ≤ b2 := by omega
          have hS0 : (fun w' : World => w'.cell? ⟨b1, 0, none⟩ = some (.int .u8 (o.kind : Int)) ∧ w'.cell? ⟨b1, 4, none⟩ = some (.string o.data) ∧ w'.cell? ⟨b2, 0, none⟩ = some (.int .i64 3) ∧ w'.cell? ⟨b2, 1, none⟩ = some (.int .i64 (n))) wb.drew := ⟨hB1.cell 0, hB1.cell 4, hB2.cell 0, hB2.cell 1⟩
          clear hwb hwb' hB1 hB2 hga hzb hb1 hb2 z0 z1 z2 z3 z4 z5 z6 z7 hc hwrw heo
          go_wp2_with fail
          have HFU := Lib.hid (fun W => full_all o.data W hds)
          have hpn := (fn_facts n).2.2.1
          have HWL := Lib.hid (write_live (HLb.out.grew (Grew.refl wb).drew) 3 (n) 0 (fullS o.data) (by rw [hpn]; decide) (by rw [fullS_size]; decide))
          rw [fn_write hn0 hn1 HEV.out (fullS_size _)] at HWL
          simp only at HWL
          have HSY := Lib.hid (sync_live (HLb.out.grew (Grew.refl wb).drew) 3 (n) (by rw [hpn]; decide))
          rw [fn_sync hn0 hn1 HEV.out] at HSY
          simp only at HSY
          generalize fullS o.data = fs at *
          have hpar : ((o.kind : Int).tmod 2 == 0) = true ∧ ((o.kind : Int).tmod 2 == 1) = false ∨ ((o.kind : Int).tmod 2 == 0) = false ∧ ((o.kind : Int).tmod 2 == 1) = true := by
            rw [Int.tmod_eq_emod_of_nonneg (by omega)]
            rcases (show (o.kind : Int) % 2 = 0 ∨ (o.kind : Int) % 2 = 1 by omega) with h | h <;> rw [h] <;> decide
          clear hpn hkd
          rcases hpar with ⟨hp0, hp1⟩ | ⟨hp0, hp1⟩
          · refine wp_region_R [] (fun w' : World => w'.cell? ⟨b1, 0, none⟩ = some (.int .u8 (o.kind : Int)) ∧ w'.cell? ⟨b1, 4, none⟩ = some (.string o.data) ∧ w'.cell? ⟨b2, 0, none⟩ = some (.int .i64 3) ∧ w'.cell? ⟨b2, 1, none⟩ = some (.int .i64 (n))) (by kernel_rfl) ?_
            have hS := hS0
            refine wpAnyR_takeQ (i := 0) (v := ?_) (some 66) rfl rfl (by kernel_rfl) (by kernel_rfl) (by kernel_rfl) (by kernel_rfl) (fun _ _ _ h => h) (Or.inl ⟨by rfl, ?_⟩) ?_
            rotate_left
            focus (intro wS hSw; (try dsimp only at hSw); go_simp; (try with_reducible rfl); (try (first | (rw [if_pos (by omega)]; (try go_simp); (try with_reducible rfl)) | (rw [if_neg (by omega)]; (try go_simp); (try with_reducible rfl)))))
            try simp only [Act.put, List.setIfInBounds_toArray, List.set_cons_zero, List.set_cons_succ]
            refine wpAnyR_take (i := 1) (v := ?_) [2, 3, 4, 5, 6, 7, 8, 9, 10, 11, 12, 13, 14, 15, 16, 17, 18, 19, 20, 21, 22, 23, 24] (some 67) rfl rfl (by kernel_rfl) (by kernel_rfl) (by kernel_rfl) (by kernel_rfl) (by kernel_rfl) (by kernel_rfl) (by kernel_rfl) (fun _ _ _ h => h) (Or.inl ⟨by rfl, ?_⟩) hS ?_
            rotate_left
            focus (intro wS hSw; (try dsimp only at hSw); go_simp; (try with_reducible rfl); (try (first | (rw [if_pos (by omega)]; (try go_simp); (try with_reducible rfl)) | (rw [if_neg (by omega)]; (try go_simp); (try with_reducible rfl)))))
            try simp only [Act.put, List.setIfInBounds_toArray, List.set_cons_zero, List.set_cons_succ]
            refine wpAnyR_takeQ (i := 2) (v := ?_) (some 68) rfl rfl (by kernel_rfl) (by kernel_rfl) (by kernel_rfl) (by kernel_rfl) (fun _ _ _ h => h) (Or.inl ⟨by rfl, ?_⟩) ?_
            rotate_left
            focus (intro wS hSw; (try dsimp only at hSw); go_simp; (try with_reducible rfl); (try (first | (rw [if_pos (by omega)]; (try go_simp); (try with_reducible rfl)) | (rw [if_neg (by omega)]; (try go_simp); (try with_reducible rfl)))))
            try simp only [Act.put, List.setIfInBounds_toArray, List.set_cons_zero, List.set_cons_succ]
            refine wpAnyR_takeQ (i := 3) (v := ?_) (some 69) rfl rfl (by kernel_rfl) (by kernel_rfl) (by kernel_rfl) (by kernel_rfl) (fun _ _ _ h => h) (Or.inl ⟨by rfl, ?_⟩) ?_
            rotate_left
            focus (intro wS hSw; (try dsimp only at hSw); go_simp; (try with_reducible rfl); (try (first | (rw [if_pos (by omega)]; (try go_simp); (try with_reducible rfl)) | (rw [if_neg (by omega)]; (try go_simp); (try with_reducible rfl)))))
            try simp only [Act.put, List.setIfInBounds_toArray, List.set_cons_zero, List.set_cons_succ]
            refine wpAnyR_takeQ (i := 4) (v := ?_) (some 70) rfl rfl (by kernel_rfl) (by kernel_rfl) (by kernel_rfl) (by kernel_rfl) (fun _ _ _ h => h) (Or.inl ⟨by rfl, ?_⟩) ?_
            rotate_left
            focus (intro wS hSw; (try dsimp only at hSw); go_simp; (try with_reducible rfl); (try (first | (rw [if_pos (by omega)]; (try go_simp); (try with_reducible rfl)) | (rw [if_neg (by omega)]; (try go_simp); (try with_reducible rfl)))))
            try simp only [Act.put, List.setIfInBounds_toArray, List.set_cons_zero, List.set_cons_succ]
            try rw [hp0]
            refine wpAnyR_takeQ (i := 5) (v := ?_) (some 71) rfl rfl (by kernel_rfl) (by kernel_rfl) (by kernel_rfl) (by kernel_rfl) (fun _ _ _ h => h) (Or.inl ⟨by rfl, ?_⟩) ?_
            rotate_left
            focus (intro wS hSw; (try dsimp only at hSw); go_simp; (try with_reducible rfl); (try (first | (rw [if_pos (by omega)]; (try go_simp); (try with_reducible rfl)) | (rw [if_neg (by omega)]; (try go_simp); (try with_reducible rfl)))))
            try simp only [Act.put, List.setIfInBounds_toArray, List.set_cons_zero, List.set_cons_succ]
            refine wpAnyR_take (i := 6) (v := ?_) [10, 11, 12, 13, 14, 15, 16, 17, 18, 19, 20, 21, 22, 23, 24] (some 72) rfl rfl (by kernel_rfl) (by kernel_rfl) (by kernel_rfl) (by kernel_rfl) (by kernel_rfl) (by kernel_rfl) (by kernel_rfl) (fun _ _ _ h => h) (Or.inl ⟨by rfl, ?_⟩) hS ?_
            rotate_left
            focus (intro wS hSw; (try dsimp only at hSw); go_simp; (try with_reducible rfl); (try (first | (rw [if_pos (by omega)]; (try go_simp); (try with_reducible rfl)) | (rw [if_neg (by omega)]; (try go_simp); (try with_reducible rfl)))))
            try simp only [Act.put, List.setIfInBounds_toArray, List.set_cons_zero, List.set_cons_succ]
            refine wpAnyR_takeQ (i := 7) (v := ?_) (some 73) rfl rfl (by kernel_rfl) (by kernel_rfl) (by kernel_rfl) (by kernel_rfl) (fun _ _ _ h => h) (Or.inl ⟨by rfl, ?_⟩) ?_
            rotate_left
            focus (intro wS hSw; (try dsimp only at hSw); go_simp; (try with_reducible rfl); (try (first | (rw [if_pos (by omega)]; (try go_simp); (try with_reducible rfl)) | (rw [if_neg (by omega)]; (try go_simp); (try with_reducible rfl)))))
            try simp only [Act.put, List.setIfInBounds_toArray, List.set_cons_zero, List.set_cons_succ]
            refine wpAnyR_take (i := 8) (v := ?_) [9, 10, 11, 12, 13, 14, 15, 16, 17, 18, 19, 20, 21, 22, 23, 24] (some 74) rfl rfl (by kernel_rfl) (by kernel_rfl) (by kernel_rfl) (by kernel_rfl) (by kernel_rfl) (by kernel_rfl) (by kernel_rfl) (fun _ _ _ h => h) (Or.inl ⟨by rfl, ?_⟩) hS ?_
            rotate_left
            focus (intro wS hSw; (try dsimp only at hSw); go_simp; (try with_reducible rfl); (try (first | (rw [if_pos (by omega)]; (try go_simp); (try with_reducible rfl)) | (rw [if_neg (by omega)]; (try go_simp); (try with_reducible rfl)))))
            try simp only [Act.put, List.setIfInBounds_toArray, List.set_cons_zero, List.set_cons_succ]
            refine wpAnyR_n1 (i := 9) rfl (by kernel_rfl) ?_
            intro K' hK
            rw [if_pos (by rfl)]
            simp only [List.getElem_toArray, List.getElem_cons_succ, List.getElem_cons_zero]
            go_wp2_with fail
            refine (HFU.out wb.drew).mono ?_
            rintro e wc ⟨rfl, rfl⟩
            go_wp2_with fail
            refine hK.out _ _ (.inr (fun h => h)) ?_
            clear hK
            refine wpAnyR_n1 (i := 10) rfl (by kernel_rfl) ?_
            intro K' hK
            rw [if_pos (by rfl)]
            simp only [List.getElem_toArray, List.getElem_cons_succ, List.getElem_cons_zero]
            go_wp2_with fail
            refine HWL.out.mono ?_
            rintro e wd ⟨rfl, hld, htd⟩
            go_wp2_with fail
            have hb1d := HB1.out.drew.turned htd (fun h => h.2 (.inr (.inl rfl)))
            have hb2d := HB2.out.drew.turned htd (fun h => h.2 (.inr (.inr rfl)))
            have HDd := Lib.hid ((HDb.out.grew (Grew.refl wb).drew).aside htd (fun k hk => .inl hk))
            have HGd := Lib.hid (HGb.out.drew.turn htd (fun k hk => by have := hk.1; omega))
            have HLd := Lib.hid (hld.few (out' := fun k => q'.feet k) (fun k hk => .inl hk))
            have hS1 : (fun w' : World => w'.cell? ⟨b1, 0, none⟩ = some (.int .u8 (o.kind : Int)) ∧ w'.cell? ⟨b1, 4, none⟩ = some (.string o.data) ∧ w'.cell? ⟨b2, 0, none⟩ = some (.int .i64 3) ∧ w'.cell? ⟨b2, 1, none⟩ = some (.int .i64 (n))) wd := ⟨hb1d.cell 0, hb1d.cell 4, hb2d.cell 0, hb2d.cell 1⟩
            refine hK.out _ _ (.inr (fun _ => hS1)) ?_
            clear hK hS hS0 hld htd hb1d hb2d
            have hS := hS1
            refine wpAnyR_takeQ (i := 11) (v := ?_) (some 77) rfl rfl (by kernel_rfl) (by kernel_rfl) (by kernel_rfl) (by kernel_rfl) (fun _ _ _ h => h) (Or.inl ⟨by rfl, ?_⟩) ?_
            rotate_left
            focus (intro wS hSw; (try dsimp only at hSw); go_simp; (try with_reducible rfl); (try (first | (rw [if_pos (by omega)]; (try go_simp); (try with_reducible rfl)) | (rw [if_neg (by omega)]; (try go_simp); (try with_reducible rfl)))))
            try simp only [Act.put, List.setIfInBounds_toArray, List.set_cons_zero, List.set_cons_succ]
            refine wpAnyR_takeQ (i := 12) (v := ?_) (some 78) rfl rfl (by kernel_rfl) (by kernel_rfl) (by kernel_rfl) (by kernel_rfl) (fun _ _ _ h => h) (Or.inl ⟨by rfl, ?_⟩) ?_
            rotate_left
            focus (intro wS hSw; (try dsimp only at hSw); go_simp; (try with_reducible rfl); (try (first | (rw [if_pos (by omega)]; (try go_simp); (try with_reducible rfl)) | (rw [if_neg (by omega)]; (try go_simp); (try with_reducible rfl)))))
            try simp only [Act.put, List.setIfInBounds_toArray, List.set_cons_zero, List.set_cons_succ]
            refine wpAnyR_takeQ (i := 13) (v := ?_) (some 79) rfl rfl (by kernel_rfl) (by kernel_rfl) (by kernel_rfl) (by kernel_rfl) (fun _ _ _ h => h) (Or.inl ⟨by rfl, ?_⟩) ?_
            rotate_left
            focus (intro wS hSw; (try dsimp only at hSw); go_simp; (try with_reducible rfl); (try (first | (rw [if_pos (by omega)]; (try go_simp); (try with_reducible rfl)) | (rw [if_neg (by omega)]; (try go_simp); (try with_reducible rfl)))))
            try simp only [Act.put, List.setIfInBounds_toArray, List.set_cons_zero, List.set_cons_succ]
            refine wpAnyR_takeQ (i := 14) (v := ?_) (some 80) rfl rfl (by kernel_rfl) (by kernel_rfl) (by kernel_rfl) (by kernel_rfl) (fun _ _ _ h => h) (Or.inl ⟨by rfl, ?_⟩) ?_
            rotate_left
            focus (intro wS hSw; (try dsimp only at hSw); go_simp; (try with_reducible rfl); (try (first | (rw [if_pos (by omega)]; (try go_simp); (try with_reducible rfl)) | (rw [if_neg (by omega)]; (try go_simp); (try with_reducible rfl)))))
            try simp only [Act.put, List.setIfInBounds_toArray, List.set_cons_zero, List.set_cons_succ]
            refine wpAnyR_take (i := 15) (v := ?_) [16, 17, 18, 19, 20, 21, 22, 23, 24] (some 81) rfl rfl (by kernel_rfl) (by kernel_rfl) (by kernel_rfl) (by kernel_rfl) (by kernel_rfl) (by kernel_rfl) (by kernel_rfl) (fun _ _ _ h => h) (Or.inl ⟨by rfl, ?_⟩) hS ?_
            rotate_left
            focus (intro wS hSw; (try dsimp only at hSw); go_simp; (try with_reducible rfl); (try (first | (rw [if_pos (by omega)]; (try go_simp); (try with_reducible rfl)) | (rw [if_neg (by omega)]; (try go_simp); (try with_reducible rfl)))))
            try simp only [Act.put, List.setIfInBounds_toArray, List.set_cons_zero, List.set_cons_succ]
            refine wpAnyR_takeQ (i := 16) (v := ?_) (some 82) rfl rfl (by kernel_rfl) (by kernel_rfl) (by kernel_rfl) (by kernel_rfl) (fun _ _ _ h => h) (Or.inl ⟨by rfl, ?_⟩) ?_
            rotate_left
            focus (intro wS hSw; (try dsimp only at hSw); go_simp; (try with_reducible rfl); (try (first | (rw [if_pos (by omega)]; (try go_simp); (try with_reducible rfl)) | (rw [if_neg (by omega)]; (try go_simp); (try with_reducible rfl)))))
            try simp only [Act.put, List.setIfInBounds_toArray, List.set_cons_zero, List.set_cons_succ]
            refine wpAnyR_takeQ (i := 17) (v := ?_) (some 83) rfl rfl (by kernel_rfl) (by kernel_rfl) (by kernel_rfl) (by kernel_rfl) (fun _ _ _ h => h) (Or.inl ⟨by rfl, ?_⟩) ?_
            rotate_left
            focus (intro wS hSw; (try dsimp only at hSw); go_simp; (try with_reducible rfl); (try (first | (rw [if_pos (by omega)]; (try go_simp); (try with_reducible rfl)) | (rw [if_neg (by omega)]; (try go_simp); (try with_reducible rfl)))))
            try simp only [Act.put, List.setIfInBounds_toArray, List.set_cons_zero, List.set_cons_succ]
            refine wpAnyR_takeQ (i := 18) (v := ?_) (some 84) rfl rfl (by kernel_rfl) (by kernel_rfl) (by kernel_rfl) (by kernel_rfl) (fun _ _ _ h => h) (Or.inl ⟨by rfl, ?_⟩) ?_
            rotate_left
            focus (intro wS hSw; (try dsimp only at hSw); go_simp; (try with_reducible rfl); (try (first | (rw [if_pos (by omega)]; (try go_simp); (try with_reducible rfl)) | (rw [if_neg (by omega)]; (try go_simp); (try with_reducible rfl)))))
            try simp only [Act.put, List.setIfInBounds_toArray, List.set_cons_zero, List.set_cons_succ]
            try rw [hp1]
            refine wpAnyR_takeQ (i := 19) (v := undef) (some 85) rfl rfl (by kernel_rfl) (by kernel_rfl) (by kernel_rfl) (by kernel_rfl) (fun _ _ _ h => h) (Or.inr ⟨by rfl, rfl⟩) ?_
            try simp only [Act.put, List.setIfInBounds_toArray, List.set_cons_zero, List.set_cons_succ]
            refine wpAnyR_takeQ (i := 20) (v := undef) (some 86) rfl rfl (by kernel_rfl) (by kernel_rfl) (by kernel_rfl) (by kernel_rfl) (fun _ _ _ h => h) (Or.inr ⟨by rfl, rfl⟩) ?_
            try simp only [Act.put, List.setIfInBounds_toArray, List.set_cons_zero, List.set_cons_succ]
            refine wpAnyR_takeQ (i := 21) (v := undef) (some 87) rfl rfl (by kernel_rfl) (by kernel_rfl) (by kernel_rfl) (by kernel_rfl) (fun _ _ _ h => h) (Or.inr ⟨by rfl, rfl⟩) ?_
            try simp only [Act.put, List.setIfInBounds_toArray, List.set_cons_zero, List.set_cons_succ]
            refine wpAnyR_takeQ (i := 22) (v := undef) (some 88) rfl rfl (by kernel_rfl) (by kernel_rfl) (by kernel_rfl) (by kernel_rfl) (fun _ _ _ h => h) (Or.inr ⟨by rfl, rfl⟩) ?_
            try simp only [Act.put, List.setIfInBounds_toArray, List.set_cons_zero, List.set_cons_succ]
            refine wpAnyR_takeQ (i := 23) (v := ?_) (some 89) rfl rfl (by kernel_rfl) (by kernel_rfl) (by kernel_rfl) (by kernel_rfl) (fun _ _ _ h => h) (Or.inl ⟨by rfl, ?_⟩) ?_
            rotate_left
            focus (intro wS hSw; (try dsimp only at hSw); go_simp; (try with_reducible rfl); (try (first | (rw [if_pos (by omega)]; (try go_simp); (try with_reducible rfl)) | (rw [if_neg (by omega)]; (try go_simp); (try with_reducible rfl)))))
            try simp only [Act.put, List.setIfInBounds_toArray, List.set_cons_zero, List.set_cons_succ]
            refine wpAnyR_takeQ (i := 24) (v := ?_) (some 90) rfl rfl (by kernel_rfl) (by kernel_rfl) (by kernel_rfl) (by kernel_rfl) (fun _ _ _ h => h) (Or.inl ⟨by rfl, ?_⟩) ?_
            rotate_left
            focus (intro wS hSw; (try dsimp only at hSw); go_simp; (try with_reducible rfl); (try (first | (rw [if_pos (by omega)]; (try go_simp); (try with_reducible rfl)) | (rw [if_neg (by omega)]; (try go_simp); (try with_reducible rfl)))))
            try simp only [Act.put, List.setIfInBounds_toArray, List.set_cons_zero, List.set_cons_succ]
            refine wpAnyR_done (by kernel_rfl) ?_ _
            clear hS hS1
            go_wp2_with fail
            go_roundg (l.length - (j + 1))
            case measure => rw [HGK.out]; omega
            case rel => exact ⟨j + 1, by omega, by omega, by go_num, HLd.out, HDd.out, HGd.out⟩
          · refine wp_region_R [] (fun w' : World => w'.cell? ⟨b1, 0, none⟩ = some (.int .u8 (o.kind : Int)) ∧ w'.cell? ⟨b1, 4, none⟩ = some (.string o.data) ∧ w'.cell? ⟨b2, 0, none⟩ = some (.int .i64 3) ∧ w'.cell? ⟨b2, 1, none⟩ = some (.int .i64 (n))) (by kernel_rfl) ?_
            have hS := hS0
            refine wpAnyR_takeQ (i := 0) (v := ?_) (some 66) rfl rfl (by kernel_rfl) (by kernel_rfl) (by kernel_rfl) (by kernel_rfl) (fun _ _ _ h => h) (Or.inl ⟨by rfl, ?_⟩) ?_
            rotate_left
            focus (intro wS hSw; (try dsimp only at hSw); go_simp; (try with_reducible rfl); (try (first | (rw [if_pos (by omega)]; (try go_simp); (try with_reducible rfl)) | (rw [if_neg (by omega)]; (try go_simp); (try with_reducible rfl)))))
            try simp only [Act.put, List.setIfInBounds_toArray, List.set_cons_zero, List.set_cons_succ]
            refine wpAnyR_take (i := 1) (v := ?_) [2, 3, 4, 5, 6, 7, 8, 9, 10, 11, 12, 13, 14, 15, 16, 17, 18, 19, 20, 21, 22, 23, 24] (some 67) rfl rfl (by kernel_rfl) (by kernel_rfl) (by kernel_rfl) (by kernel_rfl) (by kernel_rfl) (by kernel_rfl) (by kernel_rfl) (fun _ _ _ h => h) (Or.inl ⟨by rfl, ?_⟩) hS ?_
            rotate_left
            focus (intro wS hSw; (try dsimp only at hSw); go_simp; (try with_reducible rfl); (try (first | (rw [if_pos (by omega)]; (try go_simp); (try with_reducible rfl)) | (rw [if_neg (by omega)]; (try go_simp); (try with_reducible rfl)))))
            try simp only [Act.put, List.setIfInBounds_toArray, List.set_cons_zero, List.set_cons_succ]
            refine wpAnyR_takeQ (i := 2) (v := ?_) (some 68) rfl rfl (by kernel_rfl) (by kernel_rfl) (by kernel_rfl) (by kernel_rfl) (fun _ _ _ h => h) (Or.inl ⟨by rfl, ?_⟩) ?_
            rotate_left
            focus (intro wS hSw; (try dsimp only at hSw); go_simp; (try with_reducible rfl); (try (first | (rw [if_pos (by omega)]; (try go_simp); (try with_reducible rfl)) | (rw [if_neg (by omega)]; (try go_simp); (try with_reducible rfl)))))
            try simp only [Act.put, List.setIfInBounds_toArray, List.set_cons_zero, List.set_cons_succ]
            refine wpAnyR_takeQ (i := 3) (v := ?_) (some 69) rfl rfl (by kernel_rfl) (by kernel_rfl) (by kernel_rfl) (by kernel_rfl) (fun _ _ _ h => h) (Or.inl ⟨by rfl, ?_⟩) ?_
            rotate_left
            focus (intro wS hSw; (try dsimp only at hSw); go_simp; (try with_reducible rfl); (try (first | (rw [if_pos (by omega)]; (try go_simp); (try with_reducible rfl)) | (rw [if_neg (by omega)]; (try go_simp); (try with_reducible rfl)))))
            try simp only [Act.put, List.setIfInBounds_toArray, List.set_cons_zero, List.set_cons_succ]
            refine wpAnyR_takeQ (i := 4) (v := ?_) (some 70) rfl rfl (by kernel_rfl) (by kernel_rfl) (by kernel_rfl) (by kernel_rfl) (fun _ _ _ h => h) (Or.inl ⟨by rfl, ?_⟩) ?_
            rotate_left
            focus (intro wS hSw; (try dsimp only at hSw); go_simp; (try with_reducible rfl); (try (first | (rw [if_pos (by omega)]; (try go_simp); (try with_reducible rfl)) | (rw [if_neg (by omega)]; (try go_simp); (try with_reducible rfl)))))
            try simp only [Act.put, List.setIfInBounds_toArray, List.set_cons_zero, List.set_cons_succ]
            try rw [hp0]
            refine wpAnyR_takeQ (i := 5) (v := undef) (some 71) rfl rfl (by kernel_rfl) (by kernel_rfl) (by kernel_rfl) (by kernel_rfl) (fun _ _ _ h => h) (Or.inr ⟨by rfl, rfl⟩) ?_
            try simp only [Act.put, List.setIfInBounds_toArray, List.set_cons_zero, List.set_cons_succ]
            refine wpAnyR_takeQ (i := 6) (v := undef) (some 72) rfl rfl (by kernel_rfl) (by kernel_rfl) (by kernel_rfl) (by kernel_rfl) (fun _ _ _ h => h) (Or.inr ⟨by rfl, rfl⟩) ?_
            try simp only [Act.put, List.setIfInBounds_toArray, List.set_cons_zero, List.set_cons_succ]
            refine wpAnyR_takeQ (i := 7) (v := undef) (some 73) rfl rfl (by kernel_rfl) (by kernel_rfl) (by kernel_rfl) (by kernel_rfl) (fun _ _ _ h => h) (Or.inr ⟨by rfl, rfl⟩) ?_
            try simp only [Act.put, List.setIfInBounds_toArray, List.set_cons_zero, List.set_cons_succ]
            refine wpAnyR_takeQ (i := 8) (v := undef) (some 74) rfl rfl (by kernel_rfl) (by kernel_rfl) (by kernel_rfl) (by kernel_rfl) (fun _ _ _ h => h) (Or.inr ⟨by rfl, rfl⟩) ?_
            try simp only [Act.put, List.setIfInBounds_toArray, List.set_cons_zero, List.set_cons_succ]
            refine wpAnyR_takeQ (i := 9) (v := undef) (some 75) rfl rfl (by kernel_rfl) (by kernel_rfl) (by kernel_rfl) (by kernel_rfl) (fun _ _ _ h => h) (Or.inr ⟨by rfl, rfl⟩) ?_
            try simp only [Act.put, List.setIfInBounds_toArray, List.set_cons_zero, List.set_cons_succ]
            refine wpAnyR_takeQ (i := 10) (v := undef) (some 76) rfl rfl (by kernel_rfl) (by kernel_rfl) (by kernel_rfl) (by kernel_rfl) (fun _ _ _ h => h) (Or.inr ⟨by rfl, rfl⟩) ?_
            try simp only [Act.put, List.setIfInBounds_toArray, List.set_cons_zero, List.set_cons_succ]
            refine wpAnyR_takeQ (i := 11) (v := undef) (some 77) rfl rfl (by kernel_rfl) (by kernel_rfl) (by kernel_rfl) (by kernel_rfl) (fun _ _ _ h => h) (Or.inr ⟨by rfl, rfl⟩) ?_
            try simp only [Act.put, List.setIfInBounds_toArray, List.set_cons_zero, List.set_cons_succ]
            refine wpAnyR_takeQ (i := 12) (v := ?_) (some 78) rfl rfl (by kernel_rfl) (by kernel_rfl) (by kernel_rfl) (by kernel_rfl) (fun _ _ _ h => h) (Or.inl ⟨by rfl, ?_⟩) ?_
            rotate_left
            focus (intro wS hSw; (try dsimp only at hSw); go_simp; (try with_reducible rfl); (try (first | (rw [if_pos (by omega)]; (try go_simp); (try with_reducible rfl)) | (rw [if_neg (by omega)]; (try go_simp); (try with_reducible rfl)))))
            try simp only [Act.put, List.setIfInBounds_toArray, List.set_cons_zero, List.set_cons_succ]
            refine wpAnyR_takeQ (i := 13) (v := ?_) (some 79) rfl rfl (by kernel_rfl) (by kernel_rfl) (by kernel_rfl) (by kernel_rfl) (fun _ _ _ h => h) (Or.inl ⟨by rfl, ?_⟩) ?_
            rotate_left
            focus (intro wS hSw; (try dsimp only at hSw); go_simp; (try with_reducible rfl); (try (first | (rw [if_pos (by omega)]; (try go_simp); (try with_reducible rfl)) | (rw [if_neg (by omega)]; (try go_simp); (try with_reducible rfl)))))
            try simp only [Act.put, List.setIfInBounds_toArray, List.set_cons_zero, List.set_cons_succ]
            refine wpAnyR_takeQ (i := 14) (v := ?_) (some 80) rfl rfl (by kernel_rfl) (by kernel_rfl) (by kernel_rfl) (by kernel_rfl) (fun _ _ _ h => h) (Or.inl ⟨by rfl, ?_⟩) ?_
            rotate_left
            focus (intro wS hSw; (try dsimp only at hSw); go_simp; (try with_reducible rfl); (try (first | (rw [if_pos (by omega)]; (try go_simp); (try with_reducible rfl)) | (rw [if_neg (by omega)]; (try go_simp); (try with_reducible rfl)))))
            try simp only [Act.put, List.setIfInBounds_toArray, List.set_cons_zero, List.set_cons_succ]
            refine wpAnyR_take (i := 15) (v := ?_) [16, 17, 18, 19, 20, 21, 22, 23, 24] (some 81) rfl rfl (by kernel_rfl) (by kernel_rfl) (by kernel_rfl) (by kernel_rfl) (by kernel_rfl) (by kernel_rfl) (by kernel_rfl) (fun _ _ _ h => h) (Or.inl ⟨by rfl, ?_⟩) hS ?_
            rotate_left
            focus (intro wS hSw; (try dsimp only at hSw); go_simp; (try with_reducible rfl); (try (first | (rw [if_pos (by omega)]; (try go_simp); (try with_reducible rfl)) | (rw [if_neg (by omega)]; (try go_simp); (try with_reducible rfl)))))
            try simp only [Act.put, List.setIfInBounds_toArray, List.set_cons_zero, List.set_cons_succ]
            refine wpAnyR_takeQ (i := 16) (v := ?_) (some 82) rfl rfl (by kernel_rfl) (by kernel_rfl) (by kernel_rfl) (by kernel_rfl) (fun _ _ _ h => h) (Or.inl ⟨by rfl, ?_⟩) ?_
            rotate_left
            focus (intro wS hSw; (try dsimp only at hSw); go_simp; (try with_reducible rfl); (try (first | (rw [if_pos (by omega)]; (try go_simp); (try with_reducible rfl)) | (rw [if_neg (by omega)]; (try go_simp); (try with_reducible rfl)))))
            try simp only [Act.put, List.setIfInBounds_toArray, List.set_cons_zero, List.set_cons_succ]
            refine wpAnyR_takeQ (i := 17) (v := ?_) (some 83) rfl rfl (by kernel_rfl) (by kernel_rfl) (by kernel_rfl) (by kernel_rfl) (fun _ _ _ h => h) (Or.inl ⟨by rfl, ?_⟩) ?_
            rotate_left
            focus (intro wS hSw; (try dsimp only at hSw); go_simp; (try with_reducible rfl); (try (first | (rw [if_pos (by omega)]; (try go_simp); (try with_reducible rfl)) | (rw [if_neg (by omega)]; (try go_simp); (try with_reducible rfl)))))
            try simp only [Act.put, List.setIfInBounds_toArray, List.set_cons_zero, List.set_cons_succ]
            refine wpAnyR_takeQ (i := 18) (v := ?_) (some 84) rfl rfl (by kernel_rfl) (by kernel_rfl) (by kernel_rfl) (by kernel_rfl) (fun _ _ _ h => h) (Or.inl ⟨by rfl, ?_⟩) ?_
            rotate_left
            focus (intro wS hSw; (try dsimp only at hSw); go_simp; (try with_reducible rfl); (try (first | (rw [if_pos (by omega)]; (try go_simp); (try with_reducible rfl)) | (rw [if_neg (by omega)]; (try go_simp); (try with_reducible rfl)))))
            try simp only [Act.put, List.setIfInBounds_toArray, List.set_cons_zero, List.set_cons_succ]
            try rw [hp1]
            refine wpAnyR_takeQ (i := 19) (v := ?_) (some 85) rfl rfl (by kernel_rfl) (by kernel_rfl) (by kernel_rfl) (by kernel_rfl) (fun _ _ _ h => h) (Or.inl ⟨by rfl, ?_⟩) ?_
            rotate_left
            focus (intro wS hSw; (try dsimp only at hSw); go_simp; (try with_reducible rfl); (try (first | (rw [if_pos (by omega)]; (try go_simp); (try with_reducible rfl)) | (rw [if_neg (by omega)]; (try go_simp); (try with_reducible rfl)))))
            try simp only [Act.put, List.setIfInBounds_toArray, List.set_cons_zero, List.set_cons_succ]
            refine wpAnyR_take (i := 20) (v := ?_) [21, 22, 23, 24] (some 86) rfl rfl (by kernel_rfl) (by kernel_rfl) (by kernel_rfl) (by kernel_rfl) (by kernel_rfl) (by kernel_rfl) (by kernel_rfl) (fun _ _ _ h => h) (Or.inl ⟨by rfl, ?_⟩) hS ?_
            rotate_left
            focus (intro wS hSw; (try dsimp only at hSw); go_simp; (try with_reducible rfl); (try (first | (rw [if_pos (by omega)]; (try go_simp); (try with_reducible rfl)) | (rw [if_neg (by omega)]; (try go_simp); (try with_reducible rfl)))))
            try simp only [Act.put, List.setIfInBounds_toArray, List.set_cons_zero, List.set_cons_succ]
            refine wpAnyR_n1 (i := 21) rfl (by kernel_rfl) ?_
            intro K' hK
            rw [if_pos (by rfl)]
            simp only [List.getElem_toArray, List.getElem_cons_succ, List.getElem_cons_zero]
            go_wp2_with fail
            refine HSY.out.mono ?_
            rintro e wd ⟨rfl, hld, htd⟩
            go_wp2_with fail
            have hb1d := HB1.out.drew.turned htd (fun h => h.2 (.inr (.inl rfl)))
            have hb2d := HB2.out.drew.turned htd (fun h => h.2 (.inr (.inr rfl)))
            have HDd := Lib.hid ((HDb.out.grew (Grew.refl wb).drew).aside htd (fun k hk => .inl hk))
            have HGd := Lib.hid (HGb.out.drew.turn htd (fun k hk => by have := hk.1; omega))
            have HLd := Lib.hid (hld.few (out' := fun k => q'.feet k) (fun k hk => .inl hk))
            have hS1 : (fun w' : World => w'.cell? ⟨b1, 0, none⟩ = some (.int .u8 (o.kind : Int)) ∧ w'.cell? ⟨b1, 4, none⟩ = some (.string o.data) ∧ w'.cell? ⟨b2, 0, none⟩ = some (.int .i64 3) ∧ w'.cell? ⟨b2, 1, none⟩ = some (.int .i64 (n))) wd := ⟨hb1d.cell 0, hb1d.cell 4, hb2d.cell 0, hb2d.cell 1⟩
            refine hK.out _ _ (.inr (fun _ => hS1)) ?_
            clear hK hS hS0 hld htd hb1d hb2d
            have hS := hS1
            refine wpAnyR_takeQ (i := 22) (v := ?_) (some 88) rfl rfl (by kernel_rfl) (by kernel_rfl) (by kernel_rfl) (by kernel_rfl) (fun _ _ _ h => h) (Or.inl ⟨by rfl, ?_⟩) ?_
            rotate_left
            focus (intro wS hSw; (try dsimp only at hSw); go_simp; (try with_reducible rfl); (try (first | (rw [if_pos (by omega)]; (try go_simp); (try with_reducible rfl)) | (rw [if_neg (by omega)]; (try go_simp); (try with_reducible rfl)))))
            try simp only [Act.put, List.setIfInBounds_toArray, List.set_cons_zero, List.set_cons_succ]
            refine wpAnyR_takeQ (i := 23) (v := ?_) (some 89) rfl rfl (by kernel_rfl) (by kernel_rfl) (by kernel_rfl) (by kernel_rfl) (fun _ _ _ h => h) (Or.inl ⟨by rfl, ?_⟩) ?_
            rotate_left
            focus (intro wS hSw; (try dsimp only at hSw); go_simp; (try with_reducible rfl); (try (first | (rw [if_pos (by omega)]; (try go_simp); (try with_reducible rfl)) | (rw [if_neg (by omega)]; (try go_simp); (try with_reducible rfl)))))
            try simp only [Act.put, List.setIfInBounds_toArray, List.set_cons_zero, List.set_cons_succ]
            refine wpAnyR_takeQ (i := 24) (v := ?_) (some 90) rfl rfl (by kernel_rfl) (by kernel_rfl) (by kernel_rfl) (by kernel_rfl) (fun _ _ _ h => h) (Or.inl ⟨by rfl, ?_⟩) ?_
            rotate_left
            focus (intro wS hSw; (try dsimp only at hSw); go_simp; (try with_reducible rfl); (try (first | (rw [if_pos (by omega)]; (try go_simp); (try with_reducible rfl)) | (rw [if_neg (by omega)]; (try go_simp); (try with_reducible rfl)))))
            try simp only [Act.put, List.setIfInBounds_toArray, List.set_cons_zero, List.set_cons_succ]
            refine wpAnyR_done (by kernel_rfl) ?_ _
            clear hS hS1
            go_wp2_with fail
            go_roundg (l.length - (j + 1))
            case measure => rw [HGK.out]; omega
            case rel => exact ⟨j + 1, by omega, by omega, by go_num, HLd.out, HDd.out, HGd.out⟩
        · go_upto_region 17 with fail
          have hga := ((Grew.refl wr).alloc (.cells (opV o) 57)).alloc (.cells #[.int .i64 3, .int .i64 (o.ep)] 40)
          have hB1 := (Blk.new wr 57 (opV o) rfl).alloc (.cells #[.int .i64 3, .int .i64 (o.ep)] 40)
          have hB2 := Blk.new (wr.alloc (.cells (opV o) 57)) 40 #[.int .i64 3, .int .i64 (o.ep)] (n := wr.heap.size + 1) (by simp)
          obtain ⟨wb, hwb⟩ : ∃ wb, wb = (wr.alloc (.cells (opV o) 57)).alloc (.cells #[.int .i64 3, .int .i64 (o.ep)] 40) := ⟨_, rfl⟩
          have hwb' := hwb
          unfold opV at hwb'
          rw [← hwb']
          rw [← hwb] at hga hB1 hB2
          have hzb : wb.heap.size = wr.heap.size + 2 := by rw [hwb]; simp
          have HLb := Lib.hid ((HLr.out.more hga).few (out' := fun k => q'.feet k ∨ k = wr.heap.size ∨ k = wr.heap.size + 1) (fun k hk => hk.elim .inl (fun h => .inr ⟨by omega, by omega⟩)))
          have HDb := Lib.hid (HDr.out.grew hga)
          have HGb := Lib.hid (HGr.out.trans hga)
          have HEV := Lib.hid (show 0 ≤ (o.ep) ∧ (o.ep) ≤ n by omega)
          have hwrw : w1.heap.size ≤ wr.heap.size := hwr1
          obtain ⟨b1, hb1⟩ : ∃ b1, wr.heap.size = b1 := ⟨_, rfl⟩
          obtain ⟨b2, hb2⟩ : ∃ b2, wr.heap.size + 1 = b2 := ⟨_, rfl⟩
          rw [hb2] at hB2 HLb ⊢
          rw [hb1] at hB1 HLb ⊢
          have HB1 := Lib.hid hB1
          have HB2 := Lib.hid hB2
          have hbb1 : w1.heap.size ≤ b1 := by omega
          have hbb2 : w1.heap.size ≤ b2 := by omega
          have hS0 : (fun w' : World => w'.cell? ⟨b1, 0, none⟩ = some (.int .u8 (o.kind : Int)) ∧ w'.cell? ⟨b1, 4, none⟩ = some (.string o.data) ∧ w'.cell? ⟨b2, 0, none⟩ = some (.int .i64 3) ∧ w'.cell? ⟨b2, 1, none⟩ = some (.int .i64 (o.ep))) wb.drew := ⟨hB1.cell 0, hB1.cell 4, hB2.cell 0, hB2.cell 1⟩
          clear hwb hwb' hB1 hB2 hga hzb hb1 hb2 z0 z1 z2 z3 z4 z5 z6 z7 hc hwrw heo
          go_wp2_with fail
          have HFU := Lib.hid (fun W => full_all o.data W hds)
          have hpn := (fn_facts n).2.2.1
          have HWL := Lib.hid (write_live (HLb.out.grew (Grew.refl wb).drew) 3 (o.ep) 0 (fullS o.data) (by rw [hpn]; decide) (by rw [fullS_size]; decide))
          rw [fn_write hn0 hn1 HEV.out (fullS_size _)] at HWL
          simp only at HWL
          have HSY := Lib.hid (sync_live (HLb.out.grew (Grew.refl wb).drew) 3 (o.ep) (by rw [hpn]; decide))
          rw [fn_sync hn0 hn1 HEV.out] at HSY
          simp only at HSY
          generalize fullS o.data = fs at *
          have hpar : ((o.kind : Int).tmod 2 == 0) = true ∧ ((o.kind : Int).tmod 2 == 1) = false ∨ ((o.kind : Int).tmod 2 == 0) = false ∧ ((o.kind : Int).tmod 2 == 1) = true := by
            rw [Int.tmod_eq_emod_of_nonneg (by omega)]
            rcases (show (o.kind : Int) % 2 = 0 ∨ (o.kind : Int) % 2 = 1 by omega) with h | h <;> rw [h] <;> decide
          clear hpn hkd
          rcases hpar with ⟨hp0, hp1⟩ | ⟨hp0, hp1⟩
          · refine wp_region_R [] (fun w' : World => w'.cell? ⟨b1, 0, none⟩ = some (.int .u8 (o.kind : Int)) ∧ w'.cell? ⟨b1, 4, none⟩ = some (.string o.data) ∧ w'.cell? ⟨b2, 0, none⟩ = some (.int .i64 3) ∧ w'.cell? ⟨b2, 1, none⟩ = some (.int .i64 (o.ep))) (by kernel_rfl) ?_
            have hS := hS0
            refine wpAnyR_takeQ (i := 0) (v := ?_) (some 66) rfl rfl (by kernel_rfl) (by kernel_rfl) (by kernel_rfl) (by kernel_rfl) (fun _ _ _ h => h) (Or.inl ⟨by rfl, ?_⟩) ?_
            rotate_left
            focus (intro wS hSw; (try dsimp only at hSw); go_simp; (try with_reducible rfl); (try (first | (rw [if_pos (by omega)]; (try go_simp); (try with_reducible rfl)) | (rw [if_neg (by omega)]; (try go_simp); (try with_reducible rfl)))))
            try simp only [Act.put, List.setIfInBounds_toArray, List.set_cons_zero, List.set_cons_succ]
            refine wpAnyR_take (i := 1) (v := ?_) [2, 3, 4, 5, 6, 7, 8, 9, 10, 11, 12, 13, 14, 15, 16, 17, 18, 19, 20, 21, 22, 23, 24] (some 67) rfl rfl (by kernel_rfl) (by kernel_rfl) (by kernel_rfl) (by kernel_rfl) (by kernel_rfl) (by kernel_rfl) (by kernel_rfl) (fun _ _ _ h => h) (Or.inl ⟨by rfl, ?_⟩) hS ?_
            rotate_left
            focus (intro wS hSw; (try dsimp only at hSw); go_simp; (try with_reducible rfl); (try (first | (rw [if_pos (by omega)]; (try go_simp); (try with_reducible rfl)) | (rw [if_neg (by omega)]; (try go_simp); (try with_reducible rfl)))))
            try simp only [Act.put, List.setIfInBounds_toArray, List.set_cons_zero, List.set_cons_succ]
            refine wpAnyR_takeQ (i := 2) (v := ?_) (some 68) rfl rfl (by kernel_rfl) (by kernel_rfl) (by kernel_rfl) (by kernel_rfl) (fun _ _ _ h => h) (Or.inl ⟨by rfl, ?_⟩) ?_
            rotate_left
            focus (intro wS hSw; (try dsimp only at hSw); go_simp; (try with_reducible rfl); (try (first | (rw [if_pos (by omega)]; (try go_simp); (try with_reducible rfl)) | (rw [if_neg (by omega)]; (try go_simp); (try with_reducible rfl)))))
            try simp only [Act.put, List.setIfInBounds_toArray, List.set_cons_zero, List.set_cons_succ]
            refine wpAnyR_takeQ (i := 3) (v := ?_) (some 69) rfl rfl (by kernel_rfl) (by kernel_rfl) (by kernel_rfl) (by kernel_rfl) (fun _ _ _ h => h) (Or.inl ⟨by rfl, ?_⟩) ?_
            rotate_left
            focus (intro wS hSw; (try dsimp only at hSw); go_simp; (try with_reducible rfl); (try (first | (rw [if_pos (by omega)]; (try go_simp); (try with_reducible rfl)) | (rw [if_neg (by omega)]; (try go_simp); (try with_reducible rfl)))))
            try simp only [Act.put, List.setIfInBounds_toArray, List.set_cons_zero, List.set_cons_succ]
            refine wpAnyR_takeQ (i := 4) (v := ?_) (some 70) rfl rfl (by kernel_rfl) (by kernel_rfl) (by kernel_rfl) (by kernel_rfl) (fun _ _ _ h => h) (Or.inl ⟨by rfl, ?_⟩) ?_
            rotate_left
            focus (intro wS hSw; (try dsimp only at hSw); go_simp; (try with_reducible rfl); (try (first | (rw [if_pos (by omega)]; (try go_simp); (try with_reducible rfl)) | (rw [if_neg (by omega)]; (try go_simp); (try with_reducible rfl)))))
            try simp only [Act.put, List.setIfInBounds_toArray, List.set_cons_zero, List.set_cons_succ]
            try rw [hp0]
            refine wpAnyR_takeQ (i := 5) (v := ?_) (some 71) rfl rfl (by kernel_rfl) (by kernel_rfl) (by kernel_rfl) (by kernel_rfl) (fun _ _ _ h => h) (Or.inl ⟨by rfl, ?_⟩) ?_
            rotate_left
            focus (intro wS hSw; (try dsimp only at hSw); go_simp; (try with_reducible rfl); (try (first | (rw [if_pos (by omega)]; (try go_simp); (try with_reducible rfl)) | (rw [if_neg (by omega)]; (try go_simp); (try with_reducible rfl)))))
            try simp only [Act.put, List.setIfInBounds_toArray, List.set_cons_zero, List.set_cons_succ]
            refine wpAnyR_take (i := 6) (v := ?_) [10, 11, 12, 13, 14, 15, 16, 17, 18, 19, 20, 21, 22, 23, 24] (some 72) rfl rfl (by kernel_rfl) (by kernel_rfl) (by kernel_rfl) (by kernel_rfl) (by kernel_rfl) (by kernel_rfl) (by kernel_rfl) (fun _ _ _ h => h) (Or.inl ⟨by rfl, ?_⟩) hS ?_
            rotate_left
            focus (intro wS hSw; (try dsimp only at hSw); go_simp; (try with_reducible rfl); (try (first | (rw [if_pos (by omega)]; (try go_simp); (try with_reducible rfl)) | (rw [if_neg (by omega)]; (try go_simp); (try with_reducible rfl)))))
            try simp only [Act.put, List.setIfInBounds_toArray, List.set_cons_zero, List.set_cons_succ]
            refine wpAnyR_takeQ (i := 7) (v := ?_) (some 73) rfl rfl (by kernel_rfl) (by kernel_rfl) (by kernel_rfl) (by kernel_rfl) (fun _ _ _ h => h) (Or.inl ⟨by rfl, ?_⟩) ?_
            rotate_left
            focus (intro wS hSw; (try dsimp only at hSw); go_simp; (try with_reducible rfl); (try (first | (rw [if_pos (by omega)]; (try go_simp); (try with_reducible rfl)) | (rw [if_neg (by omega)]; (try go_simp); (try with_reducible rfl)))))
            try simp only [Act.put, List.setIfInBounds_toArray, List.set_cons_zero, List.set_cons_succ]
            refine wpAnyR_take (i := 8) (v := ?_) [9, 10, 11, 12, 13, 14, 15, 16, 17, 18, 19, 20, 21, 22, 23, 24] (some 74) rfl rfl (by kernel_rfl) (by kernel_rfl) (by kernel_rfl) (by kernel_rfl) (by kernel_rfl) (by kernel_rfl) (by kernel_rfl) (fun _ _ _ h => h) (Or.inl ⟨by rfl, ?_⟩) hS ?_
            rotate_left
            focus (intro wS hSw; (try dsimp only at hSw); go_simp; (try with_reducible rfl); (try (first | (rw [if_pos (by omega)]; (try go_simp); (try with_reducible rfl)) | (rw [if_neg (by omega)]; (try go_simp); (try with_reducible rfl)))))
            try simp only [Act.put, List.setIfInBounds_toArray, List.set_cons_zero, List.set_cons_succ]
            refine wpAnyR_n1 (i := 9) rfl (by kernel_rfl) ?_
            intro K' hK
            rw [if_pos (by rfl)]
            simp only [List.getElem_toArray, List.getElem_cons_succ, List.getElem_cons_zero]
            go_wp2_with fail
            refine (HFU.out wb.drew).mono ?_
            rintro e wc ⟨rfl, rfl⟩
            go_wp2_with fail
            refine hK.out _ _ (.inr (fun h => h)) ?_
            clear hK
            refine wpAnyR_n1 (i := 10) rfl (by kernel_rfl) ?_
            intro K' hK
            rw [if_pos (by rfl)]
            simp only [List.getElem_toArray, List.getElem_cons_succ, List.getElem_cons_zero]
            go_wp2_with fail
            refine HWL.out.mono ?_
            rintro e wd ⟨rfl, hld, htd⟩
            go_wp2_with fail
            have hb1d := HB1.out.drew.turned htd (fun h => h.2 (.inr (.inl rfl)))
            have hb2d := HB2.out.drew.turned htd (fun h => h.2 (.inr (.inr rfl)))
            have HDd := Lib.hid ((HDb.out.grew (Grew.refl wb).drew).aside htd (fun k hk => .inl hk))
            have HGd := Lib.hid (HGb.out.drew.turn htd (fun k hk => by have := hk.1; omega))
            have HLd := Lib.hid (hld.few (out' := fun k => q'.feet k) (fun k hk => .inl hk))
            have hS1 : (fun w' : World => w'.cell? ⟨b1, 0, none⟩ = some (.int .u8 (o.kind : Int)) ∧ w'.cell? ⟨b1, 4, none⟩ = some (.string o.data) ∧ w'.cell? ⟨b2, 0, none⟩ = some (.int .i64 3) ∧ w'.cell? ⟨b2, 1, none⟩ = some (.int .i64 (o.ep))) wd := ⟨hb1d.cell 0, hb1d.cell 4, hb2d.cell 0, hb2d.cell 1⟩
            refine hK.out _ _ (.inr (fun _ => hS1)) ?_
            clear hK hS hS0 hld htd hb1d hb2d
            have hS := hS1
            refine wpAnyR_takeQ (i := 11) (v := ?_) (some 77) rfl rfl (by kernel_rfl) (by kernel_rfl) (by kernel_rfl) (by kernel_rfl) (fun _ _ _ h => h) (Or.inl ⟨by rfl, ?_⟩) ?_
            rotate_left
            focus (intro wS hSw; (try dsimp only at hSw); go_simp; (try with_reducible rfl); (try (first | (rw [if_pos (by omega)]; (try go_simp); (try with_reducible rfl)) | (rw [if_neg (by omega)]; (try go_simp); (try with_reducible rfl)))))
            try simp only [Act.put, List.setIfInBounds_toArray, List.set_cons_zero, List.set_cons_succ]
            refine wpAnyR_takeQ (i := 12) (v := ?_) (some 78) rfl rfl (by kernel_rfl) (by kernel_rfl) (by kernel_rfl) (by kernel_rfl) (fun _ _ _ h => h) (Or.inl ⟨by rfl, ?_⟩) ?_
            rotate_left
            focus (intro wS hSw; (try dsimp only at hSw); go_simp; (try with_reducible rfl); (try (first | (rw [if_pos (by omega)]; (try go_simp); (try with_reducible rfl)) | (rw [if_neg (by omega)]; (try go_simp); (try with_reducible rfl)))))
            try simp only [Act.put, List.setIfInBounds_toArray, List.set_cons_zero, List.set_cons_succ]
            refine wpAnyR_takeQ (i := 13) (v := ?_) (some 79) rfl rfl (by kernel_rfl) (by kernel_rfl) (by kernel_rfl) (by kernel_rfl) (fun _ _ _ h => h) (Or.inl ⟨by rfl, ?_⟩) ?_
            rotate_left
            focus (intro wS hSw; (try dsimp only at hSw); go_simp; (try with_reducible rfl); (try (first | (rw [if_pos (by omega)]; (try go_simp); (try with_reducible rfl)) | (rw [if_neg (by omega)]; (try go_simp); (try with_reducible rfl)))))
            try simp only [Act.put, List.setIfInBounds_toArray, List.set_cons_zero, List.set_cons_succ]
            refine wpAnyR_takeQ (i := 14) (v := ?_) (some 80) rfl rfl (by kernel_rfl) (by kernel_rfl) (by kernel_rfl) (by kernel_rfl) (fun _ _ _ h => h) (Or.inl ⟨by rfl, ?_⟩) ?_
            rotate_left
            focus (intro wS hSw; (try dsimp only at hSw); go_simp; (try with_reducible rfl); (try (first | (rw [if_pos (by omega)]; (try go_simp); (try with_reducible rfl)) | (rw [if_neg (by omega)]; (try go_simp); (try with_reducible rfl)))))
            try simp only [Act.put, List.setIfInBounds_toArray, List.set_cons_zero, List.set_cons_succ]
            refine wpAnyR_take (i := 15) (v := ?_) [16, 17, 18, 19, 20, 21, 22, 23, 24] (some 81) rfl rfl (by kernel_rfl) (by kernel_rfl) (by kernel_rfl) (by kernel_rfl) (by kernel_rfl) (by kernel_rfl) (by kernel_rfl) (fun _ _ _ h => h) (Or.inl ⟨by rfl, ?_⟩) hS ?_
            rotate_left
            focus (intro wS hSw; (try dsimp only at hSw); go_simp; (try with_reducible rfl); (try (first | (rw [if_pos (by omega)]; (try go_simp); (try with_reducible rfl)) | (rw [if_neg (by omega)]; (try go_simp); (try with_reducible rfl)))))
            try simp only [Act.put, List.setIfInBounds_toArray, List.set_cons_zero, List.set_cons_succ]
            refine wpAnyR_takeQ (i := 16) (v := ?_) (some 82) rfl rfl (by kernel_rfl) (by kernel_rfl) (by kernel_rfl) (by kernel_rfl) (fun _ _ _ h => h) (Or.inl ⟨by rfl, ?_⟩) ?_
            rotate_left
            focus (intro wS hSw; (try dsimp only at hSw); go_simp; (try with_reducible rfl); (try (first | (rw [if_pos (by omega)]; (try go_simp); (try with_reducible rfl)) | (rw [if_neg (by omega)]; (try go_simp); (try with_reducible rfl)))))
            try simp only [Act.put, List.setIfInBounds_toArray, List.set_cons_zero, List.set_cons_succ]
            refine wpAnyR_takeQ (i := 17) (v := ?_) (some 83) rfl rfl (by kernel_rfl) (by kernel_rfl) (by kernel_rfl) (by kernel_rfl) (fun _ _ _ h => h) (Or.inl ⟨by rfl, ?_⟩) ?_
            rotate_left
            focus (intro wS hSw; (try dsimp only at hSw); go_simp; (try with_reducible rfl); (try (first | (rw [if_pos (by omega)]; (try go_simp); (try with_reducible rfl)) | (rw [if_neg (by omega)]; (try go_simp); (try with_reducible rfl)))))
            try simp only [Act.put, List.setIfInBounds_toArray, List.set_cons_zero, List.set_cons_succ]
            refine wpAnyR_takeQ (i := 18) (v := ?_) (some 84) rfl rfl (by kernel_rfl) (by kernel_rfl) (by kernel_rfl) (by kernel_rfl) (fun _ _ _ h => h) (Or.inl ⟨by rfl, ?_⟩) ?_
            rotate_left
            focus (intro wS hSw; (try dsimp only at hSw); go_simp; (try with_reducible rfl); (try (first | (rw [if_pos (by omega)]; (try go_simp); (try with_reducible rfl)) | (rw [if_neg (by omega)]; (try go_simp); (try with_reducible rfl)))))
            try simp only [Act.put, List.setIfInBounds_toArray, List.set_cons_zero, List.set_cons_succ]
            try rw [hp1]
            refine wpAnyR_takeQ (i := 19) (v := undef) (some 85) rfl rfl (by kernel_rfl) (by kernel_rfl) (by kernel_rfl) (by kernel_rfl) (fun _ _ _ h => h) (Or.inr ⟨by rfl, rfl⟩) ?_
            try simp only [Act.put, List.setIfInBounds_toArray, List.set_cons_zero, List.set_cons_succ]
            refine wpAnyR_takeQ (i := 20) (v := undef) (some 86) rfl rfl (by kernel_rfl) (by kernel_rfl) (by kernel_rfl) (by kernel_rfl) (fun _ _ _ h => h) (Or.inr ⟨by rfl, rfl⟩) ?_
            try simp only [Act.put, List.setIfInBounds_toArray, List.set_cons_zero, List.set_cons_succ]
            refine wpAnyR_takeQ (i := 21) (v := undef) (some 87) rfl rfl (by kernel_rfl) (by kernel_rfl) (by kernel_rfl) (by kernel_rfl) (fun _ _ _ h => h) (Or.inr ⟨by rfl, rfl⟩) ?_
            try simp only [Act.put, List.setIfInBounds_toArray, List.set_cons_zero, List.set_cons_succ]
            refine wpAnyR_takeQ (i := 22) (v := undef) (some 88) rfl rfl (by kernel_rfl) (by kernel_rfl) (by kernel_rfl) (by kernel_rfl) (fun _ _ _ h => h) (Or.inr ⟨by rfl, rfl⟩) ?_
            try simp only [Act.put, List.setIfInBounds_toArray, List.set_cons_zero, List.set_cons_succ]
            refine wpAnyR_takeQ (i := 23) (v := ?_) (some 89) rfl rfl (by kernel_rfl) (by kernel_rfl) (by kernel_rfl) (by kernel_rfl) (fun _ _ _ h => h) (Or.inl ⟨by rfl, ?_⟩) ?_
            rotate_left
            focus (intro wS hSw; (try dsimp only at hSw); go_simp; (try with_reducible rfl); (try (first | (rw [if_pos (by omega)]; (try go_simp); (try with_reducible rfl)) | (rw [if_neg (by omega)]; (try go_simp); (try with_reducible rfl)))))
            try simp only [Act.put, List.setIfInBounds_toArray, List.set_cons_zero, List.set_cons_succ]
            refine wpAnyR_takeQ (i := 24) (v := ?_) (some 90) rfl rfl (by kernel_rfl) (by kernel_rfl) (by kernel_rfl) (by kernel_rfl) (fun _ _ _ h => h) (Or.inl ⟨by rfl, ?_⟩) ?_
            rotate_left
            focus (intro wS hSw; (try dsimp only at hSw); go_simp; (try with_reducible rfl); (try (first | (rw [if_pos (by omega)]; (try go_simp); (try with_reducible rfl)) | (rw [if_neg (by omega)]; (try go_simp); (try with_reducible rfl)))))
            try simp only [Act.put, List.setIfInBounds_toArray, List.set_cons_zero, List.set_cons_succ]
            refine wpAnyR_done (by kernel_rfl) ?_ _
            clear hS hS1
            go_wp2_with fail
            go_roundg (l.length - (j + 1))
            case measure => rw [HGK.out]; omega
            case rel => exact ⟨j + 1, by omega, by omega, by go_num, HLd.out, HDd.out, HGd.out⟩
          · refine wp_region_R [] (fun w' : World => w'.cell? ⟨b1, 0, none⟩ = some (.int .u8 (o.kind : Int)) ∧ w'.cell? ⟨b1, 4, none⟩ = some (.string o.data) ∧ w'.cell? ⟨b2, 0, none⟩ = some (.int .i64 3) ∧ w'.cell? ⟨b2, 1, none⟩ = some (.int .i64 (o.ep))) (by kernel_rfl) ?_
            have hS := hS0
            refine wpAnyR_takeQ (i := 0) (v := ?_) (some 66) rfl rfl (by kernel_rfl) (by kernel_rfl) (by kernel_rfl) (by kernel_rfl) (fun _ _ _ h => h) (Or.inl ⟨by rfl, ?_⟩) ?_
            rotate_left
            focus (intro wS hSw; (try dsimp only at hSw); go_simp; (try with_reducible rfl); (try (first | (rw [if_pos (by omega)]; (try go_simp); (try with_reducible rfl)) | (rw [if_neg (by omega)]; (try go_simp); (try with_reducible rfl)))))
            try simp only [Act.put, List.setIfInBounds_toArray, List.set_cons_zero, List.set_cons_succ]
            refine wpAnyR_take (i := 1) (v := ?_) [2, 3, 4, 5, 6, 7, 8, 9, 10, 11, 12, 13, 14, 15, 16, 17, 18, 19, 20, 21, 22, 23, 24] (some 67) rfl rfl (by kernel_rfl) (by kernel_rfl) (by kernel_rfl) (by kernel_rfl) (by kernel_rfl) (by kernel_rfl) (by kernel_rfl) (fun _ _ _ h => h) (Or.inl ⟨by rfl, ?_⟩) hS ?_
            rotate_left
            focus (intro wS hSw; (try dsimp only at hSw); go_simp; (try with_reducible rfl); (try (first | (rw [if_pos (by omega)]; (try go_simp); (try with_reducible rfl)) | (rw [if_neg (by omega)]; (try go_simp); (try with_reducible rfl)))))
            try simp only [Act.put, List.setIfInBounds_toArray, List.set_cons_zero, List.set_cons_succ]
            refine wpAnyR_takeQ (i := 2) (v := ?_) (some 68) rfl rfl (by kernel_rfl) (by kernel_rfl) (by kernel_rfl) (by kernel_rfl) (fun _ _ _ h => h) (Or.inl ⟨by rfl, ?_⟩) ?_
            rotate_left
            focus (intro wS hSw; (try dsimp only at hSw); go_simp; (try with_reducible rfl); (try (first | (rw [if_pos (by omega)]; (try go_simp); (try with_reducible rfl)) | (rw [if_neg (by omega)]; (try go_simp); (try with_reducible rfl)))))
            try simp only [Act.put, List.setIfInBounds_toArray, List.set_cons_zero, List.set_cons_succ]
            refine wpAnyR_takeQ (i := 3) (v := ?_) (some 69) rfl rfl (by kernel_rfl) (by kernel_rfl) (by kernel_rfl) (by kernel_rfl) (fun _ _ _ h => h) (Or.inl ⟨by rfl, ?_⟩) ?_
            rotate_left
            focus (intro wS hSw; (try dsimp only at hSw); go_simp; (try with_reducible rfl); (try (first | (rw [if_pos (by omega)]; (try go_simp); (try with_reducible rfl)) | (rw [if_neg (by omega)]; (try go_simp); (try with_reducible rfl)))))
            try simp only [Act.put, List.setIfInBounds_toArray, List.set_cons_zero, List.set_cons_succ]
            refine wpAnyR_takeQ (i := 4) (v := ?_) (some 70) rfl rfl (by kernel_rfl) (by kernel_rfl) (by kernel_rfl) (by kernel_rfl) (fun _ _ _ h => h) (Or.inl ⟨by rfl, ?_⟩) ?_
            rotate_left
            focus (intro wS hSw; (try dsimp only at hSw); go_simp; (try with_reducible rfl); (try (first | (rw [if_pos (by omega)]; (try go_simp); (try with_reducible rfl)) | (rw [if_neg (by omega)]; (try go_simp); (try with_reducible rfl)))))
            try simp only [Act.put, List.setIfInBounds_toArray, List.set_cons_zero, List.set_cons_succ]
            try rw [hp0]
            refine wpAnyR_takeQ (i := 5) (v := undef) (some 71) rfl rfl (by kernel_rfl) (by kernel_rfl) (by kernel_rfl) (by kernel_rfl) (fun _ _ _ h => h) (Or.inr ⟨by rfl, rfl⟩) ?_
            try simp only [Act.put, List.setIfInBounds_toArray, List.set_cons_zero, List.set_cons_succ]
            refine wpAnyR_takeQ (i := 6) (v := undef) (some 72) rfl rfl (by kernel_rfl) (by kernel_rfl) (by kernel_rfl) (by kernel_rfl) (fun _ _ _ h => h) (Or.inr ⟨by rfl, rfl⟩) ?_
            try simp only [Act.put, List.setIfInBounds_toArray, List.set_cons_zero, List.set_cons_succ]
            refine wpAnyR_takeQ (i := 7) (v := undef) (some 73) rfl rfl (by kernel_rfl) (by kernel_rfl) (by kernel_rfl) (by kernel_rfl) (fun _ _ _ h => h) (Or.inr ⟨by rfl, rfl⟩) ?_
            try simp only [Act.put, List.setIfInBounds_toArray, List.set_cons_zero, List.set_cons_succ]
            refine wpAnyR_takeQ (i := 8) (v := undef) (some 74) rfl rfl (by kernel_rfl) (by kernel_rfl) (by kernel_rfl) (by kernel_rfl) (fun _ _ _ h => h) (Or.inr ⟨by rfl, rfl⟩) ?_
            try simp only [Act.put, List.setIfInBounds_toArray, List.set_cons_zero, List.set_cons_succ]
            refine wpAnyR_takeQ (i := 9) (v := undef) (some 75) rfl rfl (by kernel_rfl) (by kernel_rfl) (by kernel_rfl) (by kernel_rfl) (fun _ _ _ h => h) (Or.inr ⟨by rfl, rfl⟩) ?_
            try simp only [Act.put, List.setIfInBounds_toArray, List.set_cons_zero, List.set_cons_succ]
            refine wpAnyR_takeQ (i := 10) (v := undef) (some 76) rfl rfl (by kernel_rfl) (by kernel_rfl) (by kernel_rfl) (by kernel_rfl) (fun _ _ _ h => h) (Or.inr ⟨by rfl, rfl⟩) ?_
            try simp only [Act.put, List.setIfInBounds_toArray, List.set_cons_zero, List.set_cons_succ]
            refine wpAnyR_takeQ (i := 11) (v := undef) (some 77) rfl rfl (by kernel_rfl) (by kernel_rfl) (by kernel_rfl) (by kernel_rfl) (fun _ _ _ h => h) (Or.inr ⟨by rfl, rfl⟩) ?_
            try simp only [Act.put, List.setIfInBounds_toArray, List.set_cons_zero, List.set_cons_succ]
            refine wpAnyR_takeQ (i := 12) (v := ?_) (some 78) rfl rfl (by kernel_rfl) (by kernel_rfl) (by kernel_rfl) (by kernel_rfl) (fun _ _ _ h => h) (Or.inl ⟨by rfl, ?_⟩) ?_
            rotate_left
            focus (intro wS hSw; (try dsimp only at hSw); go_simp; (try with_reducible rfl); (try (first | (rw [if_pos (by omega)]; (try go_simp); (try with_reducible rfl)) | (rw [if_neg (by omega)]; (try go_simp); (try with_reducible rfl)))))
            try simp only [Act.put, List.setIfInBounds_toArray, List.set_cons_zero, List.set_cons_succ]
            refine wpAnyR_takeQ (i := 13) (v := ?_) (some 79) rfl rfl (by kernel_rfl) (by kernel_rfl) (by kernel_rfl) (by kernel_rfl) (fun _ _ _ h => h) (Or.inl ⟨by rfl, ?_⟩) ?_
            rotate_left
            focus (intro wS hSw; (try dsimp only at hSw); go_simp; (try with_reducible rfl); (try (first | (rw [if_pos (by omega)]; (try go_simp); (try with_reducible rfl)) | (rw [if_neg (by omega)]; (try go_simp); (try with_reducible rfl)))))
            try simp only [Act.put, List.setIfInBounds_toArray, List.set_cons_zero, List.set_cons_succ]
            refine wpAnyR_takeQ (i := 14) (v := ?_) (some 80) rfl rfl (by kernel_rfl) (by kernel_rfl) (by kernel_rfl) (by kernel_rfl) (fun _ _ _ h => h) (Or.inl ⟨by rfl, ?_⟩) ?_
            rotate_left
            focus (intro wS hSw; (try dsimp only at hSw); go_simp; (try with_reducible rfl); (try (first | (rw [if_pos (by omega)]; (try go_simp); (try with_reducible rfl)) | (rw [if_neg (by omega)]; (try go_simp); (try with_reducible rfl)))))
            try simp only [Act.put, List.setIfInBounds_toArray, List.set_cons_zero, List.set_cons_succ]
            refine wpAnyR_take (i := 15) (v := ?_) [16, 17, 18, 19, 20, 21, 22, 23, 24] (some 81) rfl rfl (by kernel_rfl) (by kernel_rfl) (by kernel_rfl) (by kernel_rfl) (by kernel_rfl) (by kernel_rfl) (by kernel_rfl) (fun _ _ _ h => h) (Or.inl ⟨by rfl, ?_⟩) hS ?_
            rotate_left
            focus (intro wS hSw; (try dsimp only at hSw); go_simp; (try with_reducible rfl); (try (first | (rw [if_pos (by omega)]; (try go_simp); (try with_reducible rfl)) | (rw [if_neg (by omega)]; (try go_simp); (try with_reducible rfl)))))
            try simp only [Act.put, List.setIfInBounds_toArray, List.set_cons_zero, List.set_cons_succ]
            refine wpAnyR_takeQ (i := 16) (v := ?_) (some 82) rfl rfl (by kernel_rfl) (by kernel_rfl) (by kernel_rfl) (by kernel_rfl) (fun _ _ _ h => h) (Or.inl ⟨by rfl, ?_⟩) ?_
            rotate_left
            focus (intro wS hSw; (try dsimp only at hSw); go_simp; (try with_reducible rfl); (try (first | (rw [if_pos (by omega)]; (try go_simp); (try with_reducible rfl)) | (rw [if_neg (by omega)]; (try go_simp); (try with_reducible rfl)))))
            try simp only [Act.put, List.setIfInBounds_toArray, List.set_cons_zero, List.set_cons_succ]
            refine wpAnyR_takeQ (i := 17) (v := ?_) (some 83) rfl rfl (by kernel_rfl) (by kernel_rfl) (by kernel_rfl) (by kernel_rfl) (fun _ _ _ h => h) (Or.inl ⟨by rfl, ?_⟩) ?_
            rotate_left
            focus (intro wS hSw; (try dsimp only at hSw); go_simp; (try with_reducible rfl); (try (first | (rw [if_pos (by omega)]; (try go_simp); (try with_reducible rfl)) | (rw [if_neg (by omega)]; (try go_simp); (try with_reducible rfl)))))
            try simp only [Act.put, List.setIfInBounds_toArray, List.set_cons_zero, List.set_cons_succ]
            refine wpAnyR_takeQ (i := 18) (v := ?_) (some 84) rfl rfl (by kernel_rfl) (by kernel_rfl) (by kernel_rfl) (by kernel_rfl) (fun _ _ _ h => h) (Or.inl ⟨by rfl, ?_⟩) ?_
            rotate_left
            focus (intro wS hSw; (try dsimp only at hSw); go_simp; (try with_reducible rfl); (try (first | (rw [if_pos (by omega)]; (try go_simp); (try with_reducible rfl)) | (rw [if_neg (by omega)]; (try go_simp); (try with_reducible rfl)))))
            try simp only [Act.put, List.setIfInBounds_toArray, List.set_cons_zero, List.set_cons_succ]
            try rw [hp1]
            refine wpAnyR_takeQ (i := 19) (v := ?_) (some 85) rfl rfl (by kernel_rfl) (by kernel_rfl) (by kernel_rfl) (by kernel_rfl) (fun _ _ _ h => h) (Or.inl ⟨by rfl, ?_⟩) ?_
            rotate_left
            focus (intro wS hSw; (try dsimp only at hSw); go_simp; (try with_reducible rfl); (try (first | (rw [if_pos (by omega)]; (try go_simp); (try with_reducible rfl)) | (rw [if_neg (by omega)]; (try go_simp); (try with_reducible rfl)))))
            try simp only [Act.put, List.setIfInBounds_toArray, List.set_cons_zero, List.set_cons_succ]
            refine wpAnyR_take (i := 20) (v := ?_) [21, 22, 23, 24] (some 86) rfl rfl (by kernel_rfl) (by kernel_rfl) (by kernel_rfl) (by kernel_rfl) (by kernel_rfl) (by kernel_rfl) (by kernel_rfl) (fun _ _ _ h => h) (Or.inl ⟨by rfl, ?_⟩) hS ?_
            rotate_left
            focus (intro wS hSw; (try dsimp only at hSw); go_simp; (try with_reducible rfl); (try (first | (rw [if_pos (by omega)]; (try go_simp); (try with_reducible rfl)) | (rw [if_neg (by omega)]; (try go_simp); (try with_reducible rfl)))))
            try simp only [Act.put, List.setIfInBounds_toArray, List.set_cons_zero, List.set_cons_succ]
            refine wpAnyR_n1 (i := 21) rfl (by kernel_rfl) ?_
            intro K' hK
            rw [if_pos (by rfl)]
            simp only [List.getElem_toArray, List.getElem_cons_succ, List.getElem_cons_zero]
            go_wp2_with fail
            refine HSY.out.mono ?_
            rintro e wd ⟨rfl, hld, htd⟩
            go_wp2_with fail
            have hb1d := HB1.out.drew.turned htd (fun h => h.2 (.inr (.inl rfl)))
            have hb2d := HB2.out.drew.turned htd (fun h => h.2 (.inr (.inr rfl)))
            have HDd := Lib.hid ((HDb.out.grew (Grew.refl wb).drew).aside htd (fun k hk => .inl hk))
            have HGd := Lib.hid (HGb.out.drew.turn htd (fun k hk => by have := hk.1; omega))
            have HLd := Lib.hid (hld.few (out' := fun k => q'.feet k) (fun k hk => .inl hk))
            have hS1 : (fun w' : World => w'.cell? ⟨b1, 0, none⟩ = some (.int .u8 (o.kind : Int)) ∧ w'.cell? ⟨b1, 4, none⟩ = some (.string o.data) ∧ w'.cell? ⟨b2, 0, none⟩ = some (.int .i64 3) ∧ w'.cell? ⟨b2, 1, none⟩ = some (.int .i64 (o.ep))) wd := ⟨hb1d.cell 0, hb1d.cell 4, hb2d.cell 0, hb2d.cell 1⟩
            refine hK.out _ _ (.inr (fun _ => hS1)) ?_
            clear hK hS hS0 hld htd hb1d hb2d
            have hS := hS1
            refine wpAnyR_takeQ (i := 22) (v := ?_) (some 88) rfl rfl (by kernel_rfl) (by kernel_rfl) (by kernel_rfl) (by kernel_rfl) (fun _ _ _ h => h) (Or.inl ⟨by rfl, ?_⟩) ?_
            rotate_left
            focus (intro wS hSw; (try dsimp only at hSw); go_simp; (try with_reducible rfl); (try (first | (rw [if_pos (by omega)]; (try go_simp); (try with_reducible rfl)) | (rw [if_neg (by omega)]; (try go_simp); (try with_reducible rfl)))))
            try simp only [Act.put, List.setIfInBounds_toArray, List.set_cons_zero, List.set_cons_succ]
            refine wpAnyR_takeQ (i := 23) (v := ?_) (some 89) rfl rfl (by kernel_rfl) (by kernel_rfl) (by kernel_rfl) (by kernel_rfl) (fun _ _ _ h => h) (Or.inl ⟨by rfl, ?_⟩) ?_
            rotate_left
            focus (intro wS hSw; (try dsimp only at hSw); go_simp; (try with_reducible rfl); (try (first | (rw [if_pos (by omega)]; (try go_simp); (try with_reducible rfl)) | (rw [if_neg (by omega)]; (try go_simp); (try with_reducible rfl)))))
            try simp only [Act.put, List.setIfInBounds_toArray, List.set_cons_zero, List.set_cons_succ]
            refine wpAnyR_takeQ (i := 24) (v := ?_) (some 90) rfl rfl (by kernel_rfl) (by kernel_rfl) (by kernel_rfl) (by kernel_rfl) (fun _ _ _ h => h) (Or.inl ⟨by rfl, ?_⟩) ?_
            rotate_left
            focus (intro wS hSw; (try dsimp only at hSw); go_simp; (try with_reducible rfl); (try (first | (rw [if_pos (by omega)]; (try go_simp); (try with_reducible rfl)) | (rw [if_neg (by omega)]; (try go_simp); (try with_reducible rfl)))))
            try simp only [Act.put, List.setIfInBounds_toArray, List.set_cons_zero, List.set_cons_succ]
            refine wpAnyR_done (by kernel_rfl) ?_ _
            clear hS hS1
            go_wp2_with fail
            go_roundg (l.length - (j + 1))
            case measure => rw [HGK.out]; omega
            case rel => exact ⟨j + 1, by omega, by omega, by go_num, HLd.out, HDd.out, HGd.out⟩
      · rename World => wr1
        obtain rfl : j = l.length := by omega
        go_wp2_with fail
        go_loopg [92] 4 (fun gk iv wr => ∃ j : Nat, j ≤ 4 ∧ gk = 4 - j ∧ iv = .int .i64 (j : Int) ∧ Live w1 x (fnD n) (fun k => q'.feet k) wr ∧ DevM wr q' (fnD n) ∧ Grew w wr)
        case atStart => exact ⟨0, Nat.zero_le _, rfl, rfl, HLr.out, HDr.out, HGr.out⟩
        case round =>
          obtain ⟨j2, hj2, hgk, rfl, hL, hD, hG⟩ := hrel
          have HGK2 := Lib.hid hgk
          have HLr2 := Lib.hid hL
          have HDr2 := Lib.hid hD
          have HGr2 := Lib.hid hG
          clear hgk hL hD hG
          by_cases hlt2 : j2 < 4
          · have hlti : (j2 : Int) < 4 := by omega
            obtain ⟨s, er, hr⟩ : ∃ s er, readD (fnD n) (j2 : Int) = (s, er) := ⟨_, _, rfl⟩
            have HR1 := Lib.hid (read_live HLr2.out (j2 : Int) s er hr)
            have HR2 := Lib.hid (read_any HDr2.out (j2 : Int) s er hr)
            clear hr
            go_wp2_with fail
            refine HR1.out.mono ?_
            rintro e w' ⟨rfl, rfl⟩
            go_wp2_with fail
            refine HR2.out.mono ?_
            rintro e w' ⟨rfl, rfl⟩
            go_wp2_with fail
            go_roundg (4 - (j2 + 1))
            case measure => rw [HGK2.out]; omega
            case rel => exact ⟨j2 + 1, by omega, by omega, by go_num, HLr2.out, HDr2.out, HGr2.out⟩
          · obtain rfl : j2 = 4 := by omega
            have HPD := Lib.hid (pending_live HLr2.out 3 (by rw [(fn_facts n).2.2.1]; decide))
            rw [fn_wait] at HPD
            have HFX := Lib.hid (fun W => full_all ⟨#[120]⟩ W (by decide))
            have HW1 := Lib.hid (fun (W : World) (hg : Grew wr W) (s : ByteArray) (hs : s.size = 140) => by
              have h9 := write_live (HLr2.out.grew hg) 3 (n + 1) 0 s (by rw [(fn_facts n).2.2.1]; decide) (by rw [hs]; decide)
              rw [fn_one hn0 hn1 hs] at h9
              exact h9)
            have HSX := Lib.hid (show (fullS ⟨#[120]⟩).size = 140 from fullS_size _)
            obtain ⟨fx, hfx⟩ : ∃ fx, fullS ⟨#[120]⟩ = fx := ⟨_, rfl⟩
            rw [hfx] at HFX HSX
            clear hfx
            have hnb : 0 ≤ n + 1 ∧ n + 1 ≤ 9223372036854775807 := by omega
            go_wp2_with fail
            refine HPD.out.mono ?_
            rintro e w8 ⟨rfl, hg8⟩
            have HG8 := Lib.hid hg8
            clear hg8
            go_wp2_with fail
            refine (HFX.out w8).mono ?_
            rintro e w9 ⟨rfl, rfl⟩
            go_wp2_with fail
            refine (HW1.out w8 HG8.out fx HSX.out).mono ?_
            rintro e w10 ⟨rfl, hl10, ht10⟩
            have HL10 := Lib.hid hl10
            have HG10 := Lib.hid ((HGr2.out.trans HG8.out).turn ht10 (fun k hk => by have := hk.1; omega))
            clear hl10 ht10
            go_wp2_with fail
            refine (HFX.out w10).mono ?_
            rintro e w11 ⟨rfl, rfl⟩
            go_wp2_with fail
            refine (write_live HL10.out 4 0 0 fx (show 1 ≤ 999999 by decide) (by rw [HSX.out]; decide)).mono ?_
            rintro e w12 ⟨rfl, hl12, ht12⟩
            have HG12 := Lib.hid (HG10.out.turn ht12 (fun k hk => by have := hk.1; omega))
            rw [fn_two hn0 hn1 HSX.out]
            clear hl12 ht12
            go_wp2_with fail
            go_ret
            exact ⟨rfl, HG12.out⟩
end Go.Proofs.Ytklojcgbokmkhaa
