/- Chapter 3: DeviceCrashes, the walk. -/
import Derived.Test.YtklojcgbokmkhaaDevAL
namespace Go.Proofs.Ytklojcgbokmkhaa
set_option linter.unusedVariables false
set_option linter.unusedSimpArgs false
set_option linter.unusedSectionVars false
open Go.RowKit
open Go.Maps (Keyed)
attribute [local go_sem ↓] Go.wp_at_zero Go.wp_at_succ
set_option maxRecDepth 100000 in
set_option maxHeartbeats 8000000 in
theorem deviceCrashes_any (A : Option Addr) (cc : Nat) (l : List ByteArray) (A2 : Option Addr) (c2 : Nat) (sv : List Int) (w : World) (hl : l.length ≤ 9223372036854775807) (hsl : sv.length ≤ 9223372036854775807) (HV0 : StrsAt w w.heap.size A l) (HI0 : IntsAt w w.heap.size A2 sv) :
    Calls Try.prog 4 #[.slice A l.length cc, .slice A2 sv.length c2] w fun e w' => e = .returned (.bool true) ∧ Grew w w' := by
  have HV := Lib.hid HV0
  have HI := Lib.hid HI0
  have HAW := Lib.hid awake_any
  have HFO := Lib.hid (fun W => full_any ⟨#[111, 108, 100]⟩ W (by decide))
  have HFT := Lib.hid (fun W => full_any ⟨#[116, 119, 111]⟩ W (by decide))
  rw [show fullS ⟨#[111, 108, 100]⟩ = oldS from rfl] at HFO
  rw [show fullS ⟨#[116, 119, 111]⟩ = twoS from rfl] at HFT
  clear HV0 HI0
  by_cases hb : 6 < l.length
  · have hbi : (6 : Int) < (l.length : Int) := by omega
    go_enter Try.func4, Try.ntmps4
    go_wp2_with fail
    refine (HAW.out w).mono ?_
    rintro e w1 ⟨rfl, g1⟩
    go_wp2_with fail
    refine (HAW.out w1).mono ?_
    rintro e w2 ⟨rfl, g2⟩
    go_wp2_with fail
    go_ret
    exact ⟨rfl, g1.trans g2⟩
  · have hbi : (l.length : Int) ≤ 6 := by omega
    by_cases hb2 : 6 < sv.length
    · have hbi2 : (6 : Int) < (sv.length : Int) := by omega
      go_enter Try.func4, Try.ntmps4
      go_wp2_with fail
      refine (HAW.out w).mono ?_
      rintro e w1 ⟨rfl, g1⟩
      go_wp2_with fail
      refine (HAW.out w1).mono ?_
      rintro e w2 ⟨rfl, g2⟩
      go_wp2_with fail
      go_ret
      exact ⟨rfl, g1.trans g2⟩
    · have hbi2 : (sv.length : Int) ≤ 6 := by omega
      have hl6 : l.length ≤ 6 := by omega
      go_enter Try.func4, Try.ntmps4
      go_wp2_with fail
      refine (HAW.out w).mono ?_
      rintro e w1 ⟨rfl, g1⟩
      go_wp2_with fail
      refine (begin_any 5 (by omega) w1).mono ?_
      rintro e w2 ⟨x, p, rfl, hL, hR, hF⟩
      have HG1 := Lib.hid g1
      have hg2 := hL.base
      have hb4 := Blk.new w2 32 #[.slice none 0 0, .slice none 0 0, .slice none 0 0, .slice none 0 0, .bool false, .int .i64 0, .slice none 0 0] rfl
      have HL := Lib.hid (hL.few (out' := fun _ => False) (fun k hk => hk.elim))
      have hz1 := g1.size
      clear hL hR hF g1
      go_upto_region 4 with (refine wpList_store_blk rfl 32 _ _ rfl w2.heap.size (rv p (newD (1 + 5 % 6))) rfl rfl 32 _ hb4 rfl info_rdev (rv_one _ _) ?_)
      have hg5 : Grew w2 ((w2.alloc (.cells #[.slice none 0 0, .slice none 0 0, .slice none 0 0, .slice none 0 0, .bool false, .int .i64 0, .slice none 0 0] 32)).setRow w2.heap.size (rv p (newD (1 + 5 % 6)))) := ((Grew.refl w2).alloc (.cells #[.slice none 0 0, .slice none 0 0, .slice none 0 0, .slice none 0 0, .bool false, .int .i64 0, .slice none 0 0] 32)).setRow (Nat.le_refl _) _
      obtain ⟨w5, hw5⟩ : ∃ w5, w5 = (w2.alloc (.cells #[.slice none 0 0, .slice none 0 0, .slice none 0 0, .slice none 0 0, .bool false, .int .i64 0, .slice none 0 0] 32)).setRow w2.heap.size (rv p (newD (1 + 5 % 6))) := ⟨_, rfl⟩
      rw [← hw5] at hg5 ⊢
      clear hw5 hb4
      have HL5 := Lib.hid (HL.out.grew hg5)
      have HG5 := Lib.hid ((HG1.out.trans hg2).trans hg5)
      have hge5 := HL5.out.base.size
      clear hg5 hg2 HL
      go_upto_region 7 with fail
      have hB1 := (Blk.new w5 40 #[.int .i64 1, .int .i64 0] rfl).alloc (.cells #[.int .i64 2, .int .i64 0] 40)
      have hB2 := Blk.new (w5.alloc (.cells #[.int .i64 1, .int .i64 0] 40)) 40 #[.int .i64 2, .int .i64 0] (n := w5.heap.size + 1) (by simp)
      have hg6 := ((Grew.refl w5).alloc (.cells #[.int .i64 1, .int .i64 0] 40)).alloc (.cells #[.int .i64 2, .int .i64 0] 40)
      obtain ⟨w6, hw6⟩ : ∃ w6, w6 = (w5.alloc (.cells #[.int .i64 1, .int .i64 0] 40)).alloc (.cells #[.int .i64 2, .int .i64 0] 40) := ⟨_, rfl⟩
      rw [← hw6] at hB1 hB2 hg6 ⊢
      have hz6 : w6.heap.size = w5.heap.size + 2 := by rw [hw6]; simp
      rw [show 1 + 5 % 6 = 6 from rfl] at HL5
      have HL6 := Lib.hid ((HL5.out.more hg6).few (out' := fun k => k = w5.heap.size ∨ k = w5.heap.size + 1) (fun k hk => .inr ⟨by omega, by omega⟩))
      have HG6 := Lib.hid (HG5.out.trans hg6)
      obtain ⟨b1, hb1⟩ : ∃ b1, w5.heap.size = b1 := ⟨_, rfl⟩
      obtain ⟨b2, hb2⟩ : ∃ b2, w5.heap.size + 1 = b2 := ⟨_, rfl⟩
      rw [hb2] at hB2 HL6 ⊢
      rw [hb1] at hB1 HL6 ⊢
      have HB1 := Lib.hid hB1
      have HB2 := Lib.hid hB2
      have hOS := oldS_size
      have hTS := twoS_size
      clear hw6 hb1 hb2 hB1 hB2 hg6 hz6
      go_wp2_with fail
      refine (HFO.out w6).mono ?_
      rintro e w7 ⟨rfl, rfl⟩
      go_wp2_with fail
      go_loopg [44] 6 (fun gk iv wr => ∃ (j : Nat), j ≤ 6 ∧ gk = 6 - j ∧ iv = .int .i64 (j : Int) ∧ Live w1 x { newD 6 with pend := wr2 j } (fun k => k = b1 ∨ k = b2) wr ∧ Blk wr b1 40 #[.int .i64 1, .int .i64 0] ∧ Blk wr b2 40 #[.int .i64 2, .int .i64 0] ∧ Grew w wr)
      case atStart => exact ⟨0, Nat.zero_le _, rfl, rfl, HL6.out, HB1.out, HB2.out, HG6.out⟩
      case round =>
        obtain ⟨j, hj, hgk, rfl, hL, hB1, hB2, hG⟩ := hrel
        have HGK := Lib.hid hgk
        have HLr := Lib.hid hL
        have HB1r := Lib.hid hB1
        have HB2r := Lib.hid hB2
        have HGr := Lib.hid hG
        clear hgk hL hB1 hG
        by_cases hlt : j < 6
        · have hji : (j : Int) < 6 := by omega
          have hwc : writeD { newD 6 with pend := wr2 j } 2 0 (j : Int) oldS = ({ newD 6 with pend := wr2 (j + 1) }, 0) := by
            rw [write_calm (D := { newD 6 with pend := wr2 j }) rfl rfl (plainW_of (by omega) (by omega) (by omega) (by omega)) hOS (thereD_nat (by show j < 6; exact hlt)) (by show ¬ (0 : Int) < 0; decide), Int.toNat_natCast, wr2_succ]
          have HWL := Lib.hid (write_live HLr.out 2 0 (j : Int) oldS (by show (wr2 j).length ≤ _; unfold wr2; rw [List.length_map, List.length_range]; omega) (by rw [hOS]; decide))
          rw [hwc] at HWL
          simp only at HWL
          have c0 := hB2.cell 0
          have c1 := hB2.cell 1
          have hbl := hB2.lt
          clear hwc hB2
          go_wp2_with fail
          refine HWL.out.mono ?_
          rintro e w8 ⟨rfl, hl8, ht8⟩
          have HL8 := Lib.hid hl8
          have HB18 := Lib.hid (HB1r.out.turned ht8 (fun h => h.2 (.inl rfl)))
          have HB28 := Lib.hid (HB2r.out.turned ht8 (fun h => h.2 (.inr rfl)))
          have HG8 := Lib.hid (HGr.out.turn ht8 (fun k hk => by have := hk.1; omega))
          clear hl8 ht8 c0 c1 hbl
          go_wp2_with fail
          go_roundg (6 - (j + 1))
          case measure => rw [HGK.out]; omega
          case rel => exact ⟨j + 1, by omega, by omega, by go_num, HL8.out, HB18.out, HB28.out, HG8.out⟩
        · obtain rfl : j = 6 := by omega
          have hsc : syncD { newD 6 with pend := wr2 6 } 2 0 = (cr2, 0) := by
            rw [sync_calm (D := { newD 6 with pend := wr2 6 }) rfl rfl (plainW_of (by omega) (by omega) (by omega) (by omega)) (by show ¬ (0 : Int) < 0; decide), cr2_is]
          have hwc : writeD cr2 2 0 5 twoS = (cr4 [], 0) := write_calm (D := cr2) rfl rfl (plainW_of (by omega) (by omega) (by omega) (by omega)) hTS (show thereD cr2 5 = true from thereD_nat (i := 5) (by decide)) (by show ¬ (0 : Int) < 0; decide)
          have HSL := Lib.hid (sync_live (HLr.out.grew (Grew.refl wr).drew) 2 0 (by show (wr2 6).length ≤ _; decide))
          rw [hsc] at HSL
          simp only at HSL
          have hS := (show (fun w' : World => w'.cell? ⟨b2, 0, none⟩ = some (.int .i64 2) ∧ w'.cell? ⟨b2, 1, none⟩ = some (.int .i64 0)) wr.drew from ⟨hB2.cell 0, hB2.cell 1⟩)
          clear hsc hB2 hlt
          go_wp2_with fail
          refine wp_region_R [] (fun w' : World => w'.cell? ⟨b2, 0, none⟩ = some (.int .i64 2) ∧ w'.cell? ⟨b2, 1, none⟩ = some (.int .i64 0)) (by kernel_rfl) ?_
          refine wpAnyR_takeQ (i := 0) (v := ?_) (some 54) rfl rfl (by kernel_rfl) (by kernel_rfl) (by kernel_rfl) (by kernel_rfl) (fun _ _ _ h => h) (Or.inl ⟨by rfl, ?_⟩) ?_
          rotate_left
          focus (intro wS hSw; (try dsimp only at hSw); go_simp; (try with_reducible rfl); (try (first | (rw [if_pos (by omega)]; (try go_simp); (try with_reducible rfl)) | (rw [if_neg (by omega)]; (try go_simp); (try with_reducible rfl)))))
          try simp only [Act.put, List.setIfInBounds_toArray, List.set_cons_zero, List.set_cons_succ]
          refine wpAnyR_take (i := 1) (v := ?_) [2, 3, 4, 5, 6, 7, 8, 9, 10] (some 55) rfl rfl (by kernel_rfl) (by kernel_rfl) (by kernel_rfl) (by kernel_rfl) (by kernel_rfl) (by kernel_rfl) (by kernel_rfl) (fun _ _ _ h => h) (Or.inl ⟨by rfl, ?_⟩) hS ?_
          rotate_left
          focus (intro wS hSw; (try dsimp only at hSw); go_simp; (try with_reducible rfl); (try (first | (rw [if_pos (by omega)]; (try go_simp); (try with_reducible rfl)) | (rw [if_neg (by omega)]; (try go_simp); (try with_reducible rfl)))))
          try simp only [Act.put, List.setIfInBounds_toArray, List.set_cons_zero, List.set_cons_succ]
          refine wpAnyR_n1 (i := 2) rfl (by kernel_rfl) ?_
          intro K' hK
          rw [if_pos (by rfl)]
          simp only [List.getElem_toArray, List.getElem_cons_succ, List.getElem_cons_zero]
          go_wp2_with fail
          refine HSL.out.mono ?_
          rintro e w8 ⟨rfl, hl8, ht8⟩
          go_wp2_with fail
          have hB28 := HB2r.out.drew.turned ht8 (fun h => h.2 (.inr rfl))
          have HB18 := Lib.hid (HB1r.out.drew.turned ht8 (fun h => h.2 (.inl rfl)))
          have HG8 := Lib.hid (HGr.out.drew.turn ht8 (fun k hk => by have := hk.1; omega))
          have HWL := Lib.hid (write_live hl8 2 0 5 twoS (by decide) (by rw [hTS]; decide))
          rw [hwc] at HWL
          simp only at HWL
          refine hK.out _ _ (.inr (fun _ => ⟨hB28.cell 0, hB28.cell 1⟩)) ?_
          clear hK hS hwc hl8 ht8
          have hS := (show (fun w' : World => w'.cell? ⟨b2, 0, none⟩ = some (.int .i64 2) ∧ w'.cell? ⟨b2, 1, none⟩ = some (.int .i64 0)) w8 from ⟨hB28.cell 0, hB28.cell 1⟩)
          refine wpAnyR_takeQ (i := 3) (v := ?_) (some 57) rfl rfl (by kernel_rfl) (by kernel_rfl) (by kernel_rfl) (by kernel_rfl) (fun _ _ _ h => h) (Or.inl ⟨by rfl, ?_⟩) ?_
          rotate_left
          focus (intro wS hSw; (try dsimp only at hSw); go_simp; (try with_reducible rfl); (try (first | (rw [if_pos (by omega)]; (try go_simp); (try with_reducible rfl)) | (rw [if_neg (by omega)]; (try go_simp); (try with_reducible rfl)))))
          try simp only [Act.put, List.setIfInBounds_toArray, List.set_cons_zero, List.set_cons_succ]
          refine wpAnyR_takeQ (i := 4) (v := ?_) (some 58) rfl rfl (by kernel_rfl) (by kernel_rfl) (by kernel_rfl) (by kernel_rfl) (fun _ _ _ h => h) (Or.inl ⟨by rfl, ?_⟩) ?_
          rotate_left
          focus (intro wS hSw; (try dsimp only at hSw); go_simp; (try with_reducible rfl); (try (first | (rw [if_pos (by omega)]; (try go_simp); (try with_reducible rfl)) | (rw [if_neg (by omega)]; (try go_simp); (try with_reducible rfl)))))
          try simp only [Act.put, List.setIfInBounds_toArray, List.set_cons_zero, List.set_cons_succ]
          refine wpAnyR_takeQ (i := 5) (v := ?_) (some 59) rfl rfl (by kernel_rfl) (by kernel_rfl) (by kernel_rfl) (by kernel_rfl) (fun _ _ _ h => h) (Or.inl ⟨by rfl, ?_⟩) ?_
          rotate_left
          focus (intro wS hSw; (try dsimp only at hSw); go_simp; (try with_reducible rfl); (try (first | (rw [if_pos (by omega)]; (try go_simp); (try with_reducible rfl)) | (rw [if_neg (by omega)]; (try go_simp); (try with_reducible rfl)))))
          try simp only [Act.put, List.setIfInBounds_toArray, List.set_cons_zero, List.set_cons_succ]
          refine wpAnyR_take (i := 6) (v := ?_) [8, 9, 10] (some 60) rfl rfl (by kernel_rfl) (by kernel_rfl) (by kernel_rfl) (by kernel_rfl) (by kernel_rfl) (by kernel_rfl) (by kernel_rfl) (fun _ _ _ h => h) (Or.inl ⟨by rfl, ?_⟩) hS ?_
          rotate_left
          focus (intro wS hSw; (try dsimp only at hSw); go_simp; (try with_reducible rfl); (try (first | (rw [if_pos (by omega)]; (try go_simp); (try with_reducible rfl)) | (rw [if_neg (by omega)]; (try go_simp); (try with_reducible rfl)))))
          try simp only [Act.put, List.setIfInBounds_toArray, List.set_cons_zero, List.set_cons_succ]
          refine wpAnyR_n1 (i := 7) rfl (by kernel_rfl) ?_
          intro K' hK
          rw [if_pos (by rfl)]
          simp only [List.getElem_toArray, List.getElem_cons_succ, List.getElem_cons_zero]
          go_wp2_with fail
          refine (HFT.out w8).mono ?_
          rintro e w9 ⟨rfl, rfl⟩
          go_wp2_with fail
          refine hK.out _ _ (.inr (fun h => h)) ?_
          clear hK
          refine wpAnyR_n1 (i := 8) rfl (by kernel_rfl) ?_
          intro K' hK
          rw [if_pos (by rfl)]
          simp only [List.getElem_toArray, List.getElem_cons_succ, List.getElem_cons_zero]
          go_wp2_with fail
          refine HWL.out.mono ?_
          rintro e w9 ⟨rfl, hl9, ht9⟩
          go_wp2_with fail
          have hB29 := hB28.turned ht9 (fun h => h.2 (.inr rfl))
          have HB19 := Lib.hid (HB18.out.turned ht9 (fun h => h.2 (.inl rfl)))
          have HG9 := Lib.hid (HG8.out.turn ht9 (fun k hk => by have := hk.1; omega))
          have HL9 := Lib.hid hl9
          refine hK.out _ _ (.inr (fun _ => ⟨hB29.cell 0, hB29.cell 1⟩)) ?_
          clear hK hS hl9 ht9 hB28
          refine wpAnyR_takeQ (i := 9) (v := ?_) (some 63) rfl rfl (by kernel_rfl) (by kernel_rfl) (by kernel_rfl) (by kernel_rfl) (fun _ _ _ h => h) (Or.inl ⟨by rfl, ?_⟩) ?_
          rotate_left
          focus (intro wS hSw; (try dsimp only at hSw); go_simp; (try with_reducible rfl); (try (first | (rw [if_pos (by omega)]; (try go_simp); (try with_reducible rfl)) | (rw [if_neg (by omega)]; (try go_simp); (try with_reducible rfl)))))
          try simp only [Act.put, List.setIfInBounds_toArray, List.set_cons_zero, List.set_cons_succ]
          refine wpAnyR_takeQ (i := 10) (v := ?_) (some 64) rfl rfl (by kernel_rfl) (by kernel_rfl) (by kernel_rfl) (by kernel_rfl) (fun _ _ _ h => h) (Or.inl ⟨by rfl, ?_⟩) ?_
          rotate_left
          focus (intro wS hSw; (try dsimp only at hSw); go_simp; (try with_reducible rfl); (try (first | (rw [if_pos (by omega)]; (try go_simp); (try with_reducible rfl)) | (rw [if_neg (by omega)]; (try go_simp); (try with_reducible rfl)))))
          try simp only [Act.put, List.setIfInBounds_toArray, List.set_cons_zero, List.set_cons_succ]
          refine wpAnyR_done (by kernel_rfl) ?_ _
          clear hB29
          go_wp2_with fail
          go_loopg [67] l.length (fun gk iv wr => ∃ (j : Nat), j ≤ l.length ∧ gk = l.length - j ∧ iv = .int .i64 (j : Int) ∧ Live w1 x (cr4 ((l.take (min j 5)).map fullS)) (fun k => k = b1 ∨ k = b2) wr ∧ Blk wr b1 40 #[.int .i64 1, .int .i64 0] ∧ Grew w wr)
          case atStart => exact ⟨0, Nat.zero_le _, rfl, rfl, HL9.out, HB19.out, HG9.out⟩
          case round =>
            obtain ⟨j, hj, hgk, rfl, hL, hB1, hG⟩ := hrel
            have HGK2 := Lib.hid hgk
            have HLr2 := Lib.hid hL
            have HB1r2 := Lib.hid hB1
            have HGr2 := Lib.hid hG
            clear hgk hL hG
            by_cases hlt : j < l.length
            · obtain ⟨b, off, rfl, hbb, z0⟩ := str_at (HV.out.keep (Nat.le_refl _) HGr2.out).2 hlt
              have hss := HV.out.1 _ (List.getElem_mem hlt)
              have HTK := Lib.hid (show l.take (j + 1) = l.take j ++ [l[j]] from List.take_succ_eq_append_getElem hlt)
              generalize l[j] = s at *
              have hbwr : b < wr.heap.size := by have := HGr2.out.size; omega
              by_cases hj5 : j < 5
              · have hj5i : (j : Int) < 5 := by omega
                have HFU := Lib.hid (fun W => full_all s W hss)
                have hFS := fullS_size s
                have hm1 : min j 5 = j := by omega
                have hm2 : min (j + 1) 5 = j + 1 := by omega
                have hlen : ((l.take j).map fullS).length = j := by rw [List.length_map, List.length_take]; omega
                have hwc : writeD (cr4 ((l.take (min j 5)).map fullS)) 1 0 (j : Int) (fullS s) = (cr4 ((l.take (min (j + 1) 5)).map fullS), 0) := by
                  rw [hm1, hm2]
                  rw [write_calm (D := cr4 ((l.take j).map fullS)) rfl rfl (plainW_of (by omega) (by omega) (by omega) (by omega)) hFS (thereD_nat (by show j < 6; omega)) (by show ¬ (0 : Int) < 0; decide), Int.toNat_natCast, HTK.out, List.map_append]
                  unfold cr4
                  rw [show (l.take j).map fullS ++ [s].map fullS = (l.take j).map fullS ++ [fullS s] from rfl, wrs_snoc, hlen, Nat.zero_add]
                  rfl
                have HWL := Lib.hid (write_live (HLr2.out.grew (Grew.refl wr).drew) 1 0 (j : Int) (fullS s) (by show (_ :: wrs 0 _).length ≤ _; rw [List.length_cons, wrs_len, List.length_map, List.length_take]; omega) (by rw [hFS]; decide))
                rw [hwc] at HWL
                simp only at HWL
                have hS := (show (fun w' : World => w'.cell? ⟨b1, 0, none⟩ = some (.int .i64 1) ∧ w'.cell? ⟨b1, 1, none⟩ = some (.int .i64 0)) wr.drew from ⟨hB1.cell 0, hB1.cell 1⟩)
                generalize fullS s = fs at *
                clear hwc hm1 hm2 hlen hB1
                go_wp2_with fail
                refine wp_region_R [] (fun w' : World => w'.cell? ⟨b1, 0, none⟩ = some (.int .i64 1) ∧ w'.cell? ⟨b1, 1, none⟩ = some (.int .i64 0)) (by kernel_rfl) ?_
                refine wpAnyR_takeQ (i := 0) (v := ?_) (some 72) rfl rfl (by kernel_rfl) (by kernel_rfl) (by kernel_rfl) (by kernel_rfl) (fun _ _ _ h => h) (Or.inl ⟨by rfl, ?_⟩) ?_
                rotate_left
                focus (intro wS hSw; (try dsimp only at hSw); go_simp; (try with_reducible rfl); (try (first | (rw [if_pos (by omega)]; (try go_simp); (try with_reducible rfl)) | (rw [if_neg (by omega)]; (try go_simp); (try with_reducible rfl)))))
                try simp only [Act.put, List.setIfInBounds_toArray, List.set_cons_zero, List.set_cons_succ]
                refine wpAnyR_takeQ (i := 1) (v := ?_) (some 73) rfl rfl (by kernel_rfl) (by kernel_rfl) (by kernel_rfl) (by kernel_rfl) (fun _ _ _ h => h) (Or.inl ⟨by rfl, ?_⟩) ?_
                rotate_left
                focus (intro wS hSw; (try dsimp only at hSw); go_simp; (try with_reducible rfl); (try (first | (rw [if_pos (by omega)]; (try go_simp); (try with_reducible rfl)) | (rw [if_neg (by omega)]; (try go_simp); (try with_reducible rfl)))))
                try simp only [Act.put, List.setIfInBounds_toArray, List.set_cons_zero, List.set_cons_succ]
                refine wpAnyR_takeQ (i := 2) (v := ?_) (some 74) rfl rfl (by kernel_rfl) (by kernel_rfl) (by kernel_rfl) (by kernel_rfl) (fun _ _ _ h => h) (Or.inl ⟨by rfl, ?_⟩) ?_
                rotate_left
                focus (intro wS hSw; (try dsimp only at hSw); go_simp; (try with_reducible rfl); (try (first | (rw [if_pos (by omega)]; (try go_simp); (try with_reducible rfl)) | (rw [if_neg (by omega)]; (try go_simp); (try with_reducible rfl)))))
                try simp only [Act.put, List.setIfInBounds_toArray, List.set_cons_zero, List.set_cons_succ]
                refine wpAnyR_takeQ (i := 3) (v := ?_) (some 75) rfl rfl (by kernel_rfl) (by kernel_rfl) (by kernel_rfl) (by kernel_rfl) (fun _ _ _ h => h) (Or.inl ⟨by rfl, ?_⟩) ?_
                rotate_left
                focus (intro wS hSw; (try dsimp only at hSw); go_simp; (try with_reducible rfl); (try (first | (rw [if_pos (by omega)]; (try go_simp); (try with_reducible rfl)) | (rw [if_neg (by omega)]; (try go_simp); (try with_reducible rfl)))))
                try simp only [Act.put, List.setIfInBounds_toArray, List.set_cons_zero, List.set_cons_succ]
                refine wpAnyR_take (i := 4) (v := ?_) [8, 9, 10] (some 76) rfl rfl (by kernel_rfl) (by kernel_rfl) (by kernel_rfl) (by kernel_rfl) (by kernel_rfl) (by kernel_rfl) (by kernel_rfl) (fun _ _ _ h => h) (Or.inl ⟨by rfl, ?_⟩) hS ?_
                rotate_left
                focus (intro wS hSw; (try dsimp only at hSw); go_simp; (try with_reducible rfl); (try (first | (rw [if_pos (by omega)]; (try go_simp); (try with_reducible rfl)) | (rw [if_neg (by omega)]; (try go_simp); (try with_reducible rfl)))))
                try simp only [Act.put, List.setIfInBounds_toArray, List.set_cons_zero, List.set_cons_succ]
                refine wpAnyR_takeQ (i := 5) (v := ?_) (some 77) rfl rfl (by kernel_rfl) (by kernel_rfl) (by kernel_rfl) (by kernel_rfl) (fun _ _ _ h => h) (Or.inl ⟨by rfl, ?_⟩) ?_
                rotate_left
                focus (intro wS hSw; (try dsimp only at hSw); go_simp; (try with_reducible rfl); (try (first | (rw [if_pos (by omega)]; (try go_simp); (try with_reducible rfl)) | (rw [if_neg (by omega)]; (try go_simp); (try with_reducible rfl)))))
                try simp only [Act.put, List.setIfInBounds_toArray, List.set_cons_zero, List.set_cons_succ]
                refine wpAnyR_takeQ (i := 6) (v := ?_) (some 78) rfl rfl (by kernel_rfl) (by kernel_rfl) (by kernel_rfl) (by kernel_rfl) (fun _ _ _ h => h) (Or.inl ⟨by rfl, ?_⟩) ?_
                rotate_left
                focus (intro wS hSw; (try dsimp only at hSw); go_simp; (try with_reducible rfl); (try (first | (rw [if_pos (by omega)]; (try go_simp); (try with_reducible rfl)) | (rw [if_neg (by omega)]; (try go_simp); (try with_reducible rfl)))))
                try simp only [Act.put, List.setIfInBounds_toArray, List.set_cons_zero, List.set_cons_succ]
                refine wpAnyR_n1 (i := 7) rfl (by kernel_rfl) ?_
                intro K' hK
                rw [if_pos (by rfl)]
                simp only [List.getElem_toArray, List.getElem_cons_succ, List.getElem_cons_zero]
                go_wp2_with fail
                refine (HFU.out wr.drew).mono ?_
                rintro e w10 ⟨rfl, rfl⟩
                go_wp2_with fail
                refine hK.out _ _ (.inr (fun h => h)) ?_
                clear hK
                refine wpAnyR_n1 (i := 8) rfl (by kernel_rfl) ?_
                intro K' hK
                rw [if_pos (by rfl)]
                simp only [List.getElem_toArray, List.getElem_cons_succ, List.getElem_cons_zero]
                go_wp2_with fail
                refine HWL.out.mono ?_
                rintro e w11 ⟨rfl, hl11, ht11⟩
                go_wp2_with fail
                have hB111 := HB1r2.out.drew.turned ht11 (fun h => h.2 (.inl rfl))
                have HG11 := Lib.hid (HGr2.out.drew.turn ht11 (fun k hk => by have := hk.1; omega))
                have HL11 := Lib.hid hl11
                have HB111 := Lib.hid hB111
                refine hK.out _ _ (.inr (fun _ => ⟨hB111.cell 0, hB111.cell 1⟩)) ?_
                clear hK hS hl11 ht11 hB111
                have hS : (fun w' : World => w'.cell? ⟨b1, 0, none⟩ = some (.int .i64 1) ∧ w'.cell? ⟨b1, 1, none⟩ = some (.int .i64 0)) w11 := ⟨HB111.out.cell 0, HB111.out.cell 1⟩
                refine wpAnyR_takeQ (i := 9) (v := ?_) (some 81) rfl rfl (by kernel_rfl) (by kernel_rfl) (by kernel_rfl) (by kernel_rfl) (fun _ _ _ h => h) (Or.inl ⟨by rfl, ?_⟩) ?_
                rotate_left
                focus (intro wS hSw; (try dsimp only at hSw); go_simp; (try with_reducible rfl); (try (first | (rw [if_pos (by omega)]; (try go_simp); (try with_reducible rfl)) | (rw [if_neg (by omega)]; (try go_simp); (try with_reducible rfl)))))
                try simp only [Act.put, List.setIfInBounds_toArray, List.set_cons_zero, List.set_cons_succ]
                refine wpAnyR_takeQ (i := 10) (v := ?_) (some 82) rfl rfl (by kernel_rfl) (by kernel_rfl) (by kernel_rfl) (by kernel_rfl) (fun _ _ _ h => h) (Or.inl ⟨by rfl, ?_⟩) ?_
                rotate_left
                focus (intro wS hSw; (try dsimp only at hSw); go_simp; (try with_reducible rfl); (try (first | (rw [if_pos (by omega)]; (try go_simp); (try with_reducible rfl)) | (rw [if_neg (by omega)]; (try go_simp); (try with_reducible rfl)))))
                try simp only [Act.put, List.setIfInBounds_toArray, List.set_cons_zero, List.set_cons_succ]
                refine wpAnyR_done (by kernel_rfl) ?_ _
                clear hS z0
                go_wp2_with fail
                go_roundg (l.length - (j + 1))
                case measure => rw [HGK2.out]; omega
                case rel => exact ⟨j + 1, by omega, by omega, by go_num, HL11.out, HB111.out, HG11.out⟩
              · have hj5i : ¬ (j : Int) < 5 := by omega
                have hm1 : min j 5 = 5 := by omega
                have hm2 : min (j + 1) 5 = 5 := by omega
                have HM := Lib.hid (show min (j + 1) 5 = min j 5 from by omega)
                have hS := (show (fun w' : World => w'.cell? ⟨b1, 0, none⟩ = some (.int .i64 1) ∧ w'.cell? ⟨b1, 1, none⟩ = some (.int .i64 0)) wr.drew from ⟨hB1.cell 0, hB1.cell 1⟩)
                have hdf : decide ((j : Int) < 5) = false := decide_eq_false hj5i
                clear hm1 hm2
                go_wp2_with fail
                refine wp_region_R [] (fun w' : World => w'.cell? ⟨b1, 0, none⟩ = some (.int .i64 1) ∧ w'.cell? ⟨b1, 1, none⟩ = some (.int .i64 0)) (by kernel_rfl) ?_
                refine wpAnyR_takeQ (i := 0) (v := ?_) (some 72) rfl rfl (by kernel_rfl) (by kernel_rfl) (by kernel_rfl) (by kernel_rfl) (fun _ _ _ h => h) (Or.inl ⟨by rfl, ?_⟩) ?_
                rotate_left
                focus (intro wS hSw; (try dsimp only at hSw); go_simp; (try with_reducible rfl); (try (first | (rw [if_pos (by omega)]; (try go_simp); (try with_reducible rfl)) | (rw [if_neg (by omega)]; (try go_simp); (try with_reducible rfl)))))
                try simp only [Act.put, List.setIfInBounds_toArray, List.set_cons_zero, List.set_cons_succ]
                refine wpAnyR_takeQ (i := 1) (v := ?_) (some 73) rfl rfl (by kernel_rfl) (by kernel_rfl) (by kernel_rfl) (by kernel_rfl) (fun _ _ _ h => h) (Or.inl ⟨by rfl, ?_⟩) ?_
                rotate_left
                focus (intro wS hSw; (try dsimp only at hSw); go_simp; (try with_reducible rfl); (try (first | (rw [if_pos (by omega)]; (try go_simp); (try with_reducible rfl)) | (rw [if_neg (by omega)]; (try go_simp); (try with_reducible rfl)))))
                try simp only [Act.put, List.setIfInBounds_toArray, List.set_cons_zero, List.set_cons_succ]
                refine wpAnyR_takeQ (i := 2) (v := ?_) (some 74) rfl rfl (by kernel_rfl) (by kernel_rfl) (by kernel_rfl) (by kernel_rfl) (fun _ _ _ h => h) (Or.inl ⟨by rfl, ?_⟩) ?_
                rotate_left
                focus (intro wS hSw; (try dsimp only at hSw); go_simp; (try with_reducible rfl); (try (first | (rw [if_pos (by omega)]; (try go_simp); (try with_reducible rfl)) | (rw [if_neg (by omega)]; (try go_simp); (try with_reducible rfl)))))
                try simp only [Act.put, List.setIfInBounds_toArray, List.set_cons_zero, List.set_cons_succ]
                refine wpAnyR_takeQ (i := 3) (v := undef) (some 75) rfl rfl (by kernel_rfl) (by kernel_rfl) (by kernel_rfl) (by kernel_rfl) (fun _ _ _ h => h) (Or.inr ⟨by rfl, rfl⟩) ?_
                try simp only [Act.put, List.setIfInBounds_toArray, List.set_cons_zero, List.set_cons_succ]
                refine wpAnyR_takeQ (i := 4) (v := undef) (some 76) rfl rfl (by kernel_rfl) (by kernel_rfl) (by kernel_rfl) (by kernel_rfl) (fun _ _ _ h => h) (Or.inr ⟨by rfl, rfl⟩) ?_
                try simp only [Act.put, List.setIfInBounds_toArray, List.set_cons_zero, List.set_cons_succ]
                refine wpAnyR_takeQ (i := 5) (v := undef) (some 77) rfl rfl (by kernel_rfl) (by kernel_rfl) (by kernel_rfl) (by kernel_rfl) (fun _ _ _ h => h) (Or.inr ⟨by rfl, rfl⟩) ?_
                try simp only [Act.put, List.setIfInBounds_toArray, List.set_cons_zero, List.set_cons_succ]
                refine wpAnyR_takeQ (i := 6) (v := undef) (some 78) rfl rfl (by kernel_rfl) (by kernel_rfl) (by kernel_rfl) (by kernel_rfl) (fun _ _ _ h => h) (Or.inr ⟨by rfl, rfl⟩) ?_
                try simp only [Act.put, List.setIfInBounds_toArray, List.set_cons_zero, List.set_cons_succ]
                refine wpAnyR_takeQ (i := 7) (v := undef) (some 79) rfl rfl (by kernel_rfl) (by kernel_rfl) (by kernel_rfl) (by kernel_rfl) (fun _ _ _ h => h) (Or.inr ⟨by rfl, rfl⟩) ?_
                try simp only [Act.put, List.setIfInBounds_toArray, List.set_cons_zero, List.set_cons_succ]
                refine wpAnyR_takeQ (i := 8) (v := undef) (some 80) rfl rfl (by kernel_rfl) (by kernel_rfl) (by kernel_rfl) (by kernel_rfl) (fun _ _ _ h => h) (Or.inr ⟨by rfl, rfl⟩) ?_
                try simp only [Act.put, List.setIfInBounds_toArray, List.set_cons_zero, List.set_cons_succ]
                refine wpAnyR_takeQ (i := 9) (v := undef) (some 81) rfl rfl (by kernel_rfl) (by kernel_rfl) (by kernel_rfl) (by kernel_rfl) (fun _ _ _ h => h) (Or.inr ⟨by rfl, rfl⟩) ?_
                try simp only [Act.put, List.setIfInBounds_toArray, List.set_cons_zero, List.set_cons_succ]
                refine wpAnyR_takeQ (i := 10) (v := ?_) (some 82) rfl rfl (by kernel_rfl) (by kernel_rfl) (by kernel_rfl) (by kernel_rfl) (fun _ _ _ h => h) (Or.inl ⟨by rfl, ?_⟩) ?_
                rotate_left
                focus (intro wS hSw; (try dsimp only at hSw); go_simp; (try with_reducible rfl); (try (first | (rw [if_pos (by omega)]; (try go_simp); (try with_reducible rfl)) | (rw [if_neg (by omega)]; (try go_simp); (try with_reducible rfl)))))
                try simp only [Act.put, List.setIfInBounds_toArray, List.set_cons_zero, List.set_cons_succ]
                refine wpAnyR_done (by kernel_rfl) ?_ _
                clear hS z0 hB1
                go_wp2_with fail
                go_roundg (l.length - (j + 1))
                case measure => rw [HGK2.out]; omega
                case rel => exact ⟨j + 1, by omega, by omega, by go_num, by rw [HM.out]; exact HLr2.out.grew (Grew.refl wr).drew, HB1r2.out.drew, HGr2.out.drew⟩
            · obtain rfl : j = l.length := by omega
              have hm : l.take (min l.length 5) = l.take 5 := by
                rw [Nat.min_def]; split
                · rw [List.take_of_length_le (Nat.le_refl _), List.take_of_length_le (by omega)]
                · rfl
              have hts : ((l.take (min l.length 5)).map fullS).length ≤ 5 := by rw [List.length_map, List.length_take]; omega
              obtain ⟨F, hF0, hF1, hF2, hF3, hF4⟩ := cr4_crash hts (fun t ht => by obtain ⟨s, _, rfl⟩ := List.mem_map.1 ht; exact fullS_size s) sv
              have hF5 : ∀ j, j < 5 → F.at j = if j < l.length then cutW ⟨1, j, (l.map fullS).getD j emp⟩ (svN sv j) oldS else oldS := fun j hj => by
                rw [hF4 j hj]
                have e1 : (j < ((l.take (min l.length 5)).map fullS).length) = (j < l.length) := by rw [List.length_map, List.length_take]; simp only [eq_iff_iff]; omega
                rw [hm] at e1 ⊢
                simp only [e1]
                by_cases h9 : j < l.length
                · rw [if_pos h9, if_pos h9]
                  congr 2
                  rw [List.getD_eq_getElem?_getD, List.getD_eq_getElem?_getD, List.getElem?_map, List.getElem?_map, List.getElem?_take_of_lt (by omega)]
                · rw [if_neg h9, if_neg h9]
              obtain ⟨hR1, hR2, hR3, hR4⟩ := readD_five hF1 hF2 hF3
              have hkeep := HI.out.2.keep (Nat.le_refl _) HGr2.out
              have HCR := Lib.hid (crash_live HLr2.out 1 A2 c2 sv (hkeep.mono HGr2.out.size) (fun hp b off e => .inl (by
                obtain ⟨b', off', e', hb', _⟩ := HI.out.2 (by simpa using hp)
                rw [e] at e'
                injection e' with e'
                injection e' with e' _ _
                omega)) hsl HI.out.1 (by show (_ :: wrs 0 _).length ≤ _; rw [List.length_cons, wrs_len]; omega))
              rw [hF0] at HCR
              have HF3 := Lib.hid hF3
              have HF5 := Lib.hid hF5
              have HR1 := Lib.hid hR1
              have HR2 := Lib.hid hR2
              have HR3 := Lib.hid hR3
              have HR4 := Lib.hid hR4
              have HSVO := Lib.hid HI.out.1
              clear hm hts hF0 hF1 hF2 hF3 hF4 hF5 hR1 hR2 hR3 hR4 hkeep hlt hB1
              go_wp2_with fail
              refine HCR.out.mono ?_
              rintro e w10 ⟨rfl, hl10, ht10⟩
              have HL10 := Lib.hid hl10
              have HG10 := Lib.hid (HGr2.out.turn ht10 (fun k hk => by have := hk.1; omega))
              clear hl10 ht10
              go_wp2_with fail
              go_loopg [87] 5 (fun gk iv wr => ∃ (j : Nat), j ≤ 5 ∧ gk = 5 - j ∧ iv = .int .i64 (j : Int) ∧ Grew w10 wr)
              case atStart => exact ⟨0, Nat.zero_le _, rfl, rfl, Grew.refl _⟩
              case round =>
                obtain ⟨j, hj, hgk, rfl, hgw⟩ := hrel
                have HGK3 := Lib.hid hgk
                have HLW := Lib.hid (HL10.out.grew hgw)
                have HGW2 := Lib.hid (HG10.out.trans hgw)
                have HW0 := Lib.hid hgw
                clear hgk hgw
                by_cases hlt : j < 5
                · have hji : (j : Int) < 5 := by omega
                  obtain ⟨n, hn⟩ : ∃ n, (if j < sv.length ∧ j < l.length then svN sv j else 0) = n := ⟨_, rfl⟩
                  have HN := Lib.hid hn
                  have hn140 : n ≤ 140 := by rw [← hn]; split; exact svN_le sv j; omega
                  have HAT := Lib.hid (show F.at j = if j < l.length then cutW ⟨1, j, (l.map fullS).getD j emp⟩ n oldS else oldS from by
                    rw [HF5.out j hlt, ← hn]
                    by_cases h1 : j < l.length
                    · rw [if_pos h1, if_pos h1]
                      by_cases h2 : j < sv.length
                      · rw [if_pos ⟨h2, h1⟩]
                      · rw [if_neg (fun h => h2 h.1)]
                        congr 1
                        unfold svN
                        rw [List.getD_eq_getElem?_getD, List.getElem?_eq_none (by omega)]
                        rfl
                    · rw [if_neg h1, if_neg h1])
                  have HRD := Lib.hid (read_live HLW.out (j : Int) (F.at j) 0 (HR1.out j hlt))
                  obtain ⟨fa, hfa⟩ : ∃ fa, F.at j = fa := ⟨_, rfl⟩
                  rw [hfa] at HAT HRD
                  have HFJ := Lib.hid hfa
                  clear hn hfa
                  go_upto_region 27 with fail
                  go_cut [99] (fun m wx => m = .bool (decide (j < sv.length ∧ j < l.length)) ∧ wr = wx)
                  case first =>
                    by_cases h2 : j < sv.length
                    · have h2i : (j : Int) < (sv.length : Int) := by omega
                      by_cases h1 : j < l.length
                      · have h1i : (j : Int) < (l.length : Int) := by omega
                        have HD := Lib.hid (show decide (j < sv.length ∧ j < l.length) = true from decide_eq_true ⟨h2, h1⟩)
                        clear h1 h2
                        go_wp2_with fail
                        go_meet
                        exact ⟨by rw [HD.out], rfl⟩
                      · have h1i : ¬ (j : Int) < (l.length : Int) := by omega
                        have HD := Lib.hid (show decide (j < sv.length ∧ j < l.length) = false from decide_eq_false (fun h => h1 h.2))
                        clear h1 h2
                        go_wp2_with fail
                        go_meet
                        exact ⟨by rw [HD.out], rfl⟩
                    · have h2i : ¬ (j : Int) < (sv.length : Int) := by omega
                      have HD := Lib.hid (show decide (j < sv.length ∧ j < l.length) = false from decide_eq_false (fun h => h2 h.1))
                      clear h2
                      go_wp2_with fail
                      go_meet
                      exact ⟨by rw [HD.out], rfl⟩
                  case rest =>
                  obtain ⟨rfl, rfl⟩ := hcut
                  go_upto_if 99 with fail
                  go_cut [15, 99] (fun m q9 wx => m = .int .i64 (n : Int) ∧ wr = wx)
                  case first =>
                    have hn := HN.out
                    by_cases h2 : j < sv.length
                    · have h2i : (j : Int) < (sv.length : Int) := by omega
                      by_cases h1 : j < l.length
                      · have h1i : (j : Int) < (l.length : Int) := by omega
                        have hdd : decide (j < sv.length ∧ j < l.length) = true := decide_eq_true ⟨h2, h1⟩
                        rw [if_pos ⟨h2, h1⟩] at hn
                        obtain ⟨b3, off3, rfl, hb3, s0⟩ := int_at (HI.out.2.keep (Nat.le_refl _) HGW2.out) h2
                        have hnv : n = (min (max 0 sv[j]) 140).toNat := by rw [← hn]; unfold svN; rw [List.getD_eq_getElem?_getD, List.getElem?_eq_getElem h2]; rfl
                        have hlo := HSVO.out sv[j] (List.getElem_mem h2)
                        have hb3w : b3 < wr.heap.size := by have := HGW2.out.size; omega
                        unfold okI at hlo
                        clear hn
                        generalize sv[j] = u at *
                        by_cases h3 : u ≤ 0
                        · obtain rfl : n = 0 := by omega
                          clear hnv
                          rcases Int.lt_or_eq_of_le h3 with h4 | rfl
                          · go_wp2_with fail
                            go_meet
                            exact ⟨rfl, rfl⟩
                          · go_wp2_with fail
                            go_meet
                            exact ⟨rfl, rfl⟩
                        · by_cases h4 : u < 140
                          · obtain rfl : u = (n : Int) := by omega
                            clear hnv
                            go_wp2_with fail
                            go_meet
                            exact ⟨rfl, rfl⟩
                          · obtain rfl : n = 140 := by omega
                            clear hnv
                            rcases Int.lt_or_eq_of_le (show (140 : Int) ≤ u by omega) with h5 | rfl
                            · go_wp2_with fail
                              go_meet
                              exact ⟨rfl, rfl⟩
                            · go_wp2_with fail
                              go_meet
                              exact ⟨rfl, rfl⟩
                      · have h1i : ¬ (j : Int) < (l.length : Int) := by omega
                        have hdd : decide (j < sv.length ∧ j < l.length) = false := decide_eq_false (fun h => h1 h.2)
                        rw [if_neg (fun h => h1 h.2)] at hn
                        subst hn
                        go_wp2_with fail
                        go_meet
                        exact ⟨rfl, rfl⟩
                    · have h2i : ¬ (j : Int) < (sv.length : Int) := by omega
                      have hdd : decide (j < sv.length ∧ j < l.length) = false := decide_eq_false (fun h => h2 h.1)
                      rw [if_neg (fun h => h2 h.1)] at hn
                      subst hn
                      go_wp2_with fail
                      go_meet
                      exact ⟨rfl, rfl⟩
                  case rest =>
                    obtain ⟨rfl, rfl⟩ := hcut
                    go_upto_if 108 with fail
                    go_cut [16] (fun m wx => m = .string fa ∧ Grew wr wx)
                    case first =>
                      by_cases h0 : n = 0
                      · subst h0
                        have HFA := Lib.hid (show fa = oldS from by
                          rw [HAT.out]; split
                          · exact cutW_zero
                          · rfl)
                        go_wp2_with fail
                        go_meet
                        exact ⟨by rw [HFA.out], Grew.refl _⟩
                      · have hn0 : (0 : Int) < (n : Int) := by omega
                        have hc9 : j < sv.length ∧ j < l.length := by
                          have := HN.out
                          by_cases h9 : j < sv.length ∧ j < l.length
                          · exact h9
                          · rw [if_neg h9] at this; omega
                        obtain ⟨b, off, rfl, hbb, z0⟩ := str_at (HV.out.keep (Nat.le_refl _) HGW2.out).2 hc9.2
                        have hss := HV.out.1 _ (List.getElem_mem hc9.2)
                        have HFA := Lib.hid (show fa = cutW ⟨1, j, fullS l[j]⟩ n oldS from by
                          rw [HAT.out, if_pos hc9.2]
                          congr 2
                          rw [List.getD_eq_getElem?_getD, List.getElem?_map, List.getElem?_eq_getElem hc9.2]; rfl)
                        generalize l[j] = s at *
                        have HFU := Lib.hid (fun W => full_all s W hss)
                        have hFS := fullS_size s
                        generalize fullS s = fs at *
                        have hbwr : b < wr.heap.size := by have := HGW2.out.size; omega
                        have hjl : (j : Int) < (l.length : Int) := by omega
                        have HCW := Lib.hid (show fs.extract 0 n ++ oldS.extract n oldS.size = cutW ⟨1, j, fs⟩ n oldS from rfl)
                        have hfz1 : n ≤ fs.size := by omega
                        have hfz2 : n ≤ oldS.size := by omega
                        have hfz3 : fs.size ≤ 140 := by omega
                        have hfz4 : oldS.size ≤ 140 := by omega
                        have hS := (show (fun w' : World => w'.cell? ⟨b, off + j, none⟩ = some (.string s)) wr.drew from z0)
                        clear hFS hc9 h0 hOS
                        go_wp2_with fail
                        refine wp_region_R [] (fun w' : World => w'.cell? ⟨b, off + j, none⟩ = some (.string s)) (by kernel_rfl) ?_
                        refine wpAnyR_takeQ (i := 0) (v := ?_) (some 109) rfl rfl (by kernel_rfl) (by kernel_rfl) (by kernel_rfl) (by kernel_rfl) (fun _ _ _ h => h) (Or.inl ⟨by rfl, ?_⟩) ?_
                        rotate_left
                        focus (intro wS hSw; (try dsimp only at hSw); go_simp; (try with_reducible rfl); (try (first | (rw [if_pos (by omega)]; (try go_simp); (try with_reducible rfl)) | (rw [if_neg (by omega)]; (try go_simp); (try with_reducible rfl)))))
                        try simp only [Act.put, List.setIfInBounds_toArray, List.set_cons_zero, List.set_cons_succ]
                        refine wpAnyR_takeQ (i := 1) (v := ?_) (some 110) rfl rfl (by kernel_rfl) (by kernel_rfl) (by kernel_rfl) (by kernel_rfl) (fun _ _ _ h => h) (Or.inl ⟨by rfl, ?_⟩) ?_
                        rotate_left
                        focus (intro wS hSw; (try dsimp only at hSw); go_simp; (try with_reducible rfl); (try (first | (rw [if_pos (by omega)]; (try go_simp); (try with_reducible rfl)) | (rw [if_neg (by omega)]; (try go_simp); (try with_reducible rfl)))))
                        try simp only [Act.put, List.setIfInBounds_toArray, List.set_cons_zero, List.set_cons_succ]
                        refine wpAnyR_takeQ (i := 2) (v := ?_) (some 111) rfl rfl (by kernel_rfl) (by kernel_rfl) (by kernel_rfl) (by kernel_rfl) (fun _ _ _ h => h) (Or.inl ⟨by rfl, ?_⟩) ?_
                        rotate_left
                        focus (intro wS hSw; (try dsimp only at hSw); go_simp; (try with_reducible rfl); (try (first | (rw [if_pos (by omega)]; (try go_simp); (try with_reducible rfl)) | (rw [if_neg (by omega)]; (try go_simp); (try with_reducible rfl)))))
                        try simp only [Act.put, List.setIfInBounds_toArray, List.set_cons_zero, List.set_cons_succ]
                        refine wpAnyR_take (i := 3) (v := ?_) [4, 6, 10, 11] (some 112) rfl rfl (by kernel_rfl) (by kernel_rfl) (by kernel_rfl) (by kernel_rfl) (by kernel_rfl) (by kernel_rfl) (by kernel_rfl) (fun _ _ _ h => h) (Or.inl ⟨by rfl, ?_⟩) hS ?_
                        rotate_left
                        focus (intro wS hSw; (try dsimp only at hSw); go_simp; (try with_reducible rfl); (try (first | (rw [if_pos (by omega)]; (try go_simp); (try with_reducible rfl)) | (rw [if_neg (by omega)]; (try go_simp); (try with_reducible rfl)))))
                        try simp only [Act.put, List.setIfInBounds_toArray, List.set_cons_zero, List.set_cons_succ]
                        refine wpAnyR_takeQ (i := 5) (v := ?_) (some 114) rfl rfl (by kernel_rfl) (by kernel_rfl) (by kernel_rfl) (by kernel_rfl) (fun _ _ _ h => h) (Or.inl ⟨by rfl, ?_⟩) ?_
                        rotate_left
                        focus (intro wS hSw; (try dsimp only at hSw); go_simp; (try with_reducible rfl); (try (first | (rw [if_pos (by omega)]; (try go_simp); (try with_reducible rfl)) | (rw [if_neg (by omega)]; (try go_simp); (try with_reducible rfl)))))
                        try simp only [Act.put, List.setIfInBounds_toArray, List.set_cons_zero, List.set_cons_succ]
                        refine wpAnyR_takeQ (i := 7) (v := ?_) (some 116) rfl rfl (by kernel_rfl) (by kernel_rfl) (by kernel_rfl) (by kernel_rfl) (fun _ _ _ h => h) (Or.inl ⟨by rfl, ?_⟩) ?_
                        rotate_left
                        focus (intro wS hSw; (try dsimp only at hSw); go_simp; (try with_reducible rfl); (try (first | (rw [if_pos (by omega)]; (try go_simp); (try with_reducible rfl)) | (rw [if_neg (by omega)]; (try go_simp); (try with_reducible rfl)))))
                        try simp only [Act.put, List.setIfInBounds_toArray, List.set_cons_zero, List.set_cons_succ]
                        refine wpAnyR_takeQ (i := 8) (v := ?_) (some 117) rfl rfl (by kernel_rfl) (by kernel_rfl) (by kernel_rfl) (by kernel_rfl) (fun _ _ _ h => h) (Or.inl ⟨by rfl, ?_⟩) ?_
                        rotate_left
                        focus (intro wS hSw; (try dsimp only at hSw); go_simp; (try with_reducible rfl); (try (first | (rw [if_pos (by omega)]; (try go_simp); (try with_reducible rfl)) | (rw [if_neg (by omega)]; (try go_simp); (try with_reducible rfl)))))
                        try simp only [Act.put, List.setIfInBounds_toArray, List.set_cons_zero, List.set_cons_succ]
                        refine wpAnyR_takeQ (i := 9) (v := ?_) (some 118) rfl rfl (by kernel_rfl) (by kernel_rfl) (by kernel_rfl) (by kernel_rfl) (fun _ _ _ h => h) (Or.inl ⟨by rfl, ?_⟩) ?_
                        rotate_left
                        focus (intro wS hSw; (try dsimp only at hSw); go_simp; (try with_reducible rfl); (try (first | (rw [if_pos (by omega)]; (try go_simp); (try with_reducible rfl)) | (rw [if_neg (by omega)]; (try go_simp); (try with_reducible rfl)))))
                        try simp only [Act.put, List.setIfInBounds_toArray, List.set_cons_zero, List.set_cons_succ]
                        refine wpAnyR_n1 (i := 4) rfl (by kernel_rfl) ?_
                        intro K' hK
                        rw [if_pos (by rfl)]
                        simp only [List.getElem_toArray, List.getElem_cons_succ, List.getElem_cons_zero]
                        go_wp2_with fail
                        refine (HFU.out wr.drew).mono ?_
                        rintro e w11 ⟨rfl, rfl⟩
                        go_wp2_with fail
                        refine hK.out _ _ (.inr (fun h => h)) ?_
                        clear hK
                        refine wpAnyR_takeQ (i := 6) (v := ?_) (some 115) rfl rfl (by kernel_rfl) (by kernel_rfl) (by kernel_rfl) (by kernel_rfl) (fun _ _ _ h => h) (Or.inl ⟨by rfl, ?_⟩) ?_
                        rotate_left
                        focus (intro wS hSw; (try dsimp only at hSw); go_simp; (try with_reducible rfl); (try (first | (rw [if_pos (by omega)]; (try go_simp); (try with_reducible rfl)) | (rw [if_neg (by omega)]; (try go_simp); (try with_reducible rfl)))))
                        try simp only [Act.put, List.setIfInBounds_toArray, List.set_cons_zero, List.set_cons_succ]
                        refine wpAnyR_takeQ (i := 10) (v := ?_) (some 119) rfl rfl (by kernel_rfl) (by kernel_rfl) (by kernel_rfl) (by kernel_rfl) (fun _ _ _ h => h) (Or.inl ⟨by rfl, ?_⟩) ?_
                        rotate_left
                        focus (intro wS hSw; (try dsimp only at hSw); go_simp; (try with_reducible rfl); (try (first | (rw [if_pos (by omega)]; (try go_simp); (try with_reducible rfl)) | (rw [if_neg (by omega)]; (try go_simp); (try with_reducible rfl)))))
                        try simp only [Act.put, List.setIfInBounds_toArray, List.set_cons_zero, List.set_cons_succ]
                        refine wpAnyR_takeQ (i := 11) (v := ?_) (some 16) rfl rfl (by kernel_rfl) (by kernel_rfl) (by kernel_rfl) (by kernel_rfl) (fun _ _ _ h => h) (Or.inl ⟨by rfl, ?_⟩) ?_
                        rotate_left
                        focus (intro wS hSw; (try dsimp only at hSw); go_simp; (try with_reducible rfl); (try (first | (rw [if_pos (by omega)]; (try go_simp); (try with_reducible rfl)) | (rw [if_neg (by omega)]; (try go_simp); (try with_reducible rfl)))))
                        try simp only [Act.put, List.setIfInBounds_toArray, List.set_cons_zero, List.set_cons_succ]
                        refine wpAnyR_done (by kernel_rfl) ?_ _
                        clear hS z0
                        go_wp2_with fail
                        go_meet
                        exact ⟨by rw [HFA.out, ← HCW.out], (Grew.refl _).drew⟩
                    case rest =>
                      obtain ⟨rfl, hgc⟩ := hcut
                      have hrd := HRD.out
                      have HRW := Lib.hid (read_live (HLW.out.grew hgc) (j : Int) fa 0 (by have := HR1.out j hlt; rw [HFJ.out] at this; exact this))
                      have HWC := Lib.hid (HW0.out.trans hgc)
                      have hss : (fa.toList == fa.toList) = true := beq_self_eq_true _
                      clear hrd hgc
                      go_wp2_with fail
                      refine HRW.out.mono ?_
                      rintro e w12 ⟨rfl, rfl⟩
                      go_wp2_with fail
                      go_roundg (5 - (j + 1))
                      case measure => rw [HGK3.out]; omega
                      case rel => exact ⟨j + 1, by omega, by omega, by go_num, HWC.out⟩
                · obtain rfl : j = 5 := by omega
                  have HRD := Lib.hid (read_live HLW.out 5 twoS 0 HR2.out)
                  have HPA := Lib.hid (pending_live HLW.out 2 (by rw [HF3.out]; decide))
                  rw [HR3.out] at HPA
                  have HPB := fun W (hg : Grew wr W) => Lib.hid (pending_live (HLW.out.grew hg) 1 (by rw [HF3.out]; decide))
                  simp only [HR4.out] at HPB
                  have hss : (twoS.toList == twoS.toList) = true := beq_self_eq_true _
                  go_wp2_with fail
                  refine HRD.out.mono ?_
                  rintro e w11 ⟨rfl, rfl⟩
                  go_wp2_with fail
                  refine (HFT.out wr).mono ?_
                  rintro e w11 ⟨rfl, rfl⟩
                  go_wp2_with fail
                  refine HPA.out.mono ?_
                  rintro e w11 ⟨rfl, g11⟩
                  have HPB2 := (HPB w11 g11)
                  have HG11 := Lib.hid (HGW2.out.trans g11)
                  clear g11
                  go_wp2_with fail
                  refine HPB2.out.mono ?_
                  rintro e w12 ⟨rfl, g12⟩
                  go_wp2_with fail
                  go_ret
                  exact ⟨rfl, HG11.out.trans g12⟩
end Go.Proofs.Ytklojcgbokmkhaa
