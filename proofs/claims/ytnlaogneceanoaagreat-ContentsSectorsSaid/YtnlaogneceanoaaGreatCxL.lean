/- Chapter 8: the reference's Load. Chapter 8: the program's Sectors. Chapter 8: the program's Changes. Chapter 8: the reference's Changes. Chapter 8: Same, on both sides. A list of strings as an argument. -/
import Derived.Test.YtnlaogneceanoaaGreatCxA
import Derived.Test.YtnlaogneceanoaaGreatCxG
import Derived.Test.YtnlaogneceanoaaGreatCxH
import Derived.Test.YtnlaogneceanoaaGreatCxI
import Derived.Test.YtnlaogneceanoaaGreatCxJ
import Derived.Test.YtnlaogneceanoaaGreatCxK
namespace Go.Proofs.YtnlaogneceanoaaGreat
set_option linter.unusedVariables false
set_option linter.unusedSimpArgs false
set_option linter.unusedSectionVars false
open Go.RowKit
attribute [local go_sem ↓] Go.wp_at_zero Go.wp_at_succ
theorem set_mid (ls : List Lab) (n : Nat) (hn : 0 < n) (l : Lab) : (ls ++ List.replicate n labZ).set ls.length l = (ls ++ [l]) ++ List.replicate (n - 1) labZ := by
  obtain ⟨n, rfl⟩ : ∃ j, n = j + 1 := ⟨n - 1, by omega⟩
  rw [List.replicate_succ, List.set_append_right _ _ (Nat.le_refl _), Nat.sub_self, List.set_cons_zero, List.append_assoc]
  rfl
set_option maxRecDepth 100000 in
set_option maxHeartbeats 16000000 in
theorem rload_tab (A : Option Addr) (c : Nat) (ss : List ByteArray) (w : World) (h : ListAt w w.heap.size 1 A (ss.map strC)) (hl : ss.length ≤ 10000) (hz : ∀ x ∈ ss, x.size ≤ 1000) :
    Calls Tryz.prog 27 #[.slice A ss.length c] w fun e w' => ∃ A c xs T er, e = .returned (.tuple #[.agg #[.string T.name, .int .i64 T.tracks, .slice A T.labels.length c], .int .i64 er]) ∧ LdS ss T er ∧ SmallT T ∧ TabAt w' A c xs T ∧ Grew w w' := by
  have H := Lib.hid h
  have HZ := Lib.hid hz
  have hb0 := Blk.new w 24 #[.string ⟨#[]⟩, .int .i64 0, .slice none 0 0] rfl
  have hg0 := (Grew.refl w).alloc (.cells #[.string ⟨#[]⟩, .int .i64 0, .slice none 0 0] 24)
  have HB0 := Lib.hid hb0
  have HG0 := Lib.hid hg0
  have HLW := Lib.hid (fun w9 (g9 : Grew w w9) => (h.keep (Nat.le_refl _) g9).mono g9.size)
  have HTR := Lib.hid (fun n (hn : n ≤ 1000) w9 (g9 : Grew w w9) => track_any A c ss n w9 ((h.keep (Nat.le_refl _) g9).mono g9.size) (by omega) hz hn)
  clear h hz
  have hts : (trkS ss 0).size ≤ 8000 := trkS_size 1000 ss 0 HZ.out
  have CH := fun w9 => rdecHead_any (trkS ss 0) w9 (by omega)
  rw [head_same] at CH
  rcases head_strict (trkS ss 0) with hh | ⟨nm, tt, hh, _, hnm, htt, hn8, ht0, ht1⟩
  · have HE := Lib.hid (ld_head ss hh)
    rw [hh] at CH
    clear hh hb0 hg0
    go_enter Tryz.func27, Tryz.ntmps27
    go_wp2_with fail
    refine (HTR.out 0 (by omega) _ HG0.out).mono ?_
    rintro e w1 ⟨rfl, g1⟩
    go_wp2_with fail
    refine (CH _).mono ?_
    rintro e w2 ⟨rfl, g2⟩
    have hb2 := HB0.out.grew (g1.trans g2)
    have hgg := HG0.out.trans (g1.trans g2)
    clear g1 g2
    have z0 := hb2.cell 0
    have z1 := hb2.cell 1
    have z2 := hb2.cell 2
    have f0 := hb2.frozen 0
    have f1 := hb2.frozen 1
    have f2 := hb2.frozen 2
    have hlb := hb2.lt
    go_wp2_with fail
    refine bodyPost_ret (by first | (simp [*, results, Tryz.results27, go_sem]; rfl) | simp [*, results, Tryz.results27, go_sem]) rfl ?_
    exact ⟨none, 0, [], tabZ, 11, rfl, HE.out, small_zero, TabAt.zero _, by (repeat' first | (with_reducible exact Grew.refl _) | (with_reducible assumption) | (with_reducible refine Grew.alloc ?_ _) | (with_reducible refine Grew.drew ?_) | (with_reducible refine Grew.drewN ?_ _) | (with_reducible refine Grew.setRow ?_ (by first | (simp; done) | (simp; omega) | omega) _) | (with_reducible refine Grew.setCell ?_ (by first | (simp; done) | (simp; omega) | omega) _) | ((with_reducible apply Grew.trans); rotate_left; (with_reducible assumption)) | ((with_reducible apply Grew.turn); rotate_left; (with_reducible assumption); (focus (intro i hi; first | omega | (simp at hi; omega)))) | fail)⟩
  rw [hh] at CH
  have HH := Lib.hid hh
  have HNM := Lib.hid (show newT nm tt = (⟨nm, tt, List.replicate (slotsS tt).toNat labZ⟩, 0) from by unfold newT; rw [if_pos ⟨htt, hnm⟩])
  obtain ⟨hsl1, hsl2⟩ := slots_nat tt
  obtain ⟨m, hm⟩ : ∃ m, (slotsS tt).toNat = m := ⟨_, rfl⟩
  rw [hm] at HNM hsl1 hsl2
  have HSL := Lib.hid (show ((m : Nat) : Int) = slotsS tt from hsl1)
  have HTS := Lib.hid (show ((m : Nat) : Int) + 1 = ttS tt from by
    have h3 := okT_true htt
    unfold slotsS at hsl1
    unfold ttS at hsl1 ⊢
    rw [if_pos htt] at hsl1 ⊢
    omega)
  clear hh hb0 hg0 htt hnm hsl1 hm
  go_enter Tryz.func27, Tryz.ntmps27
  go_wp2_with fail
  refine (HTR.out 0 (by omega) _ HG0.out).mono ?_
  rintro e w1 ⟨rfl, g1⟩
  go_wp2_with fail
  refine (CH _).mono ?_
  rintro e w3 ⟨rfl, g2⟩
  have HB3 := Lib.hid (HB0.out.grew (g1.trans g2))
  have HG3 := Lib.hid (HG0.out.trans (g1.trans g2))
  clear g1 g2 CH
  go_wp2_with fail
  refine (rnew_tab nm tt _ (by omega) _ _ HNM.out).mono ?_
  rintro e w4 ⟨v, ys, rfl, hto4, hnone4, g4⟩
  obtain ⟨A7, c7, rfl, hfm⟩ := hto4.form
  have h9 : TabO w4 w3.heap.size (.slice A7 (List.replicate m labZ).length c7) ys (List.replicate m labZ) := hto4
  rw [List.length_replicate] at h9
  clear hto4
  have hto4 := h9
  clear h9
  rw [List.length_replicate]
  have hT4 := Blk.new w4 24 #[.string nm, .int .i64 tt, .slice A7 m c7] rfl
  have HT4 := Lib.hid hT4
  have HTO4 := Lib.hid (hto4.hold ((Grew.refl w4).alloc (.cells #[.string nm, .int .i64 tt, .slice A7 m c7] 24)))
  have HG4 := Lib.hid (g4.alloc (.cells #[.string nm, .int .i64 tt, .slice A7 m c7] 24))
  have hgs34 : w3.heap.size ≤ w4.heap.size := g4.size
  clear hto4 hnone4 g4 hfm hT4
  go_wp2_with fail
  go_loopg [6, 9] m (fun gk ev i wr => ∃ (k : Nat) (ys : List LabE) (ls : List Lab), k ≤ m ∧ gk = m - k ∧ i = .int .i64 k ∧ ls.length = k ∧ (∀ j (hj : j < ls.length), decP (trkS ss (j + 1)) tt = (ls[j], 0)) ∧ (∀ l ∈ ls, l.ext.length ≤ 1000) ∧ TabO wr w3.heap.size (.slice A7 m c7) ys (ls ++ List.replicate (m - k) labZ) ∧ Blk wr w4.heap.size 24 #[.string nm, .int .i64 tt, .slice A7 m c7] ∧ Grew w3 wr)
  case atStart => exact ⟨0, _, [], by omega, by omega, rfl, rfl, fun j hj => absurd hj (Nat.not_lt_zero _), fun l hl => (by cases hl), HTO4.out, HT4.out, HG4.out⟩
  case round =>
    obtain ⟨k, ys, ls, hk, hgk, rfl, hlk, hdec, hsm, hto, hbt, hg⟩ := hrel
    have HGK := Lib.hid hgk
    have HDEC := Lib.hid hdec
    have HSM := Lib.hid hsm
    have HTO := Lib.hid hto
    have HBT := Lib.hid hbt
    have HG := Lib.hid hg
    have HLK := Lib.hid hlk
    have HGA := Lib.hid (HG3.out.trans hg)
    have hyl : ys.length = m := by rw [hto.len, List.length_append, List.length_replicate]; omega
    have hll : (ls ++ List.replicate (m - k) labZ).length = m := by rw [List.length_append, List.length_replicate]; omega
    have x2 := hbt.cell 2
    have hlw := hbt.lt
    have hw3 := HB3.out.lt
    clear hgk hdec hsm hbt hg hlk
    by_cases hlt : k < m
    · obtain ⟨g, cap, hv, hgb, hgs⟩ : ∃ g cap, Value.slice A7 m c7 = .slice (some ⟨g, 0, none⟩) m cap ∧ w3.heap.size ≤ g ∧ g < wr.heap.size := by
        rcases hto.own.form with ⟨_, h0⟩ | ⟨g, cap, hv, h1, h2, _⟩
        · have := congrArg List.length h0; rw [List.length_map, hyl, List.length_nil] at this; omega
        · rw [List.length_map, hyl] at hv; exact ⟨g, cap, hv, h1, h2⟩
      injection hv with hv1 _ hv2
      subst hv1; subst hv2
      obtain ⟨l, er, hd⟩ : ∃ l er, decP (trkS ss (k + 1)) tt = (l, er) := ⟨_, _, rfl⟩
      have hts2 : (trkS ss (k + 1)).size ≤ 8000 := trkS_size 1000 ss (k + 1) HZ.out
      have CD := fun w9 => rdecode_lab (trkS ss (k + 1)) tt w9 (by omega) (by omega) (by omega)
      rw [dec_same, hd] at CD
      have CT := fun w9 (g9 : Grew w w9) => HTR.out (k + 1) (by omega) w9 g9
      rw [show ((k + 1 : Nat) : Int) = 1 + (k : Int) from by omega] at CT
      have HD := Lib.hid hd
      have HSG := Lib.hid (show ∀ w1 : World, Grew wr.drew w1 → (fun w' : World => w'.cell? ⟨w4.heap.size, 2, none⟩ = some (.slice (some ⟨g, 0, none⟩) m c7) ∧ g < w'.heap.size) w1 from fun w1 g9 => ⟨((HBT.out.drew).grew g9).cell 2, Nat.lt_of_lt_of_le hgs g9.size⟩)
      have hS : (fun w' : World => w'.cell? ⟨w4.heap.size, 2, none⟩ = some (.slice (some ⟨g, 0, none⟩) m c7) ∧ g < w'.heap.size) wr.drew := HSG.out _ (Grew.refl _)
      have HGD := Lib.hid ((Grew.refl wr).drew)
      clear hto hd
      go_wp2_with fail
      refine wp_region_R [13] (fun w' : World => w'.cell? ⟨w4.heap.size, 2, none⟩ = some (.slice (some ⟨g, 0, none⟩) m c7) ∧ g < w'.heap.size) (by kernel_rfl) ?_
      refine wpAnyR_takeQ (i := 0) (v := ?_) (some 34) rfl rfl (by kernel_rfl) (by kernel_rfl) (by kernel_rfl) (by kernel_rfl) (fun _ _ _ h => h) (Or.inl ⟨by rfl, ?_⟩) ?_
      rotate_left
      focus (intro wS hSw; (try dsimp only at hSw); go_simp; (try with_reducible rfl); (try (first | (rw [if_pos (by omega)]; (try go_simp); (try with_reducible rfl)) | (rw [if_neg (by omega)]; (try go_simp); (try with_reducible rfl)))))
      try simp only [Act.put, zA, zB, zC]
      refine wpAnyR_take (i := 1) (v := ?_) [12, 13, 14] (some 35) rfl rfl (by kernel_rfl) (by kernel_rfl) (by kernel_rfl) (by kernel_rfl) (by kernel_rfl) (by kernel_rfl) (by kernel_rfl) (fun _ _ _ h => h) (Or.inl ⟨by rfl, ?_⟩) hS ?_
      rotate_left
      focus (intro wS hSw; (try dsimp only at hSw); go_simp; (try with_reducible rfl); (try (first | (rw [if_pos (by omega)]; (try go_simp); (try with_reducible rfl)) | (rw [if_neg (by omega)]; (try go_simp); (try with_reducible rfl)))))
      try simp only [Act.put, zA, zB, zC]
      refine wpAnyR_takeQ (i := 2) (v := ?_) (some 36) rfl rfl (by kernel_rfl) (by kernel_rfl) (by kernel_rfl) (by kernel_rfl) (fun _ _ _ h => h) (Or.inl ⟨by rfl, ?_⟩) ?_
      rotate_left
      focus (intro wS hSw; (try dsimp only at hSw); go_simp; (try with_reducible rfl); (try (first | (rw [if_pos (by omega)]; (try go_simp); (try with_reducible rfl)) | (rw [if_neg (by omega)]; (try go_simp); (try with_reducible rfl)))))
      try simp only [Act.put, zA, zB, zC]
      refine wpAnyR_takeQ (i := 3) (v := ?_) (some 37) rfl rfl (by kernel_rfl) (by kernel_rfl) (by kernel_rfl) (by kernel_rfl) (fun _ _ _ h => h) (Or.inl ⟨by rfl, ?_⟩) ?_
      rotate_left
      focus (intro wS hSw; (try dsimp only at hSw); go_simp; (try with_reducible rfl); (try (first | (rw [if_pos (by omega)]; (try go_simp); (try with_reducible rfl)) | (rw [if_neg (by omega)]; (try go_simp); (try with_reducible rfl)))))
      try simp only [Act.put, zA, zB, zC]
      refine wpAnyR_takeQ (i := 4) (v := ?_) (some 38) rfl rfl (by kernel_rfl) (by kernel_rfl) (by kernel_rfl) (by kernel_rfl) (fun _ _ _ h => h) (Or.inl ⟨by rfl, ?_⟩) ?_
      rotate_left
      focus (intro wS hSw; (try dsimp only at hSw); go_simp; (try with_reducible rfl); (try (first | (rw [if_pos (by omega)]; (try go_simp); (try with_reducible rfl)) | (rw [if_neg (by omega)]; (try go_simp); (try with_reducible rfl)))))
      try simp only [Act.put, zA, zB, zC]
      refine wpAnyR_takeQ (i := 5) (v := ?_) (some 39) rfl rfl (by kernel_rfl) (by kernel_rfl) (by kernel_rfl) (by kernel_rfl) (fun _ _ _ h => h) (Or.inl ⟨by rfl, ?_⟩) ?_
      rotate_left
      focus (intro wS hSw; (try dsimp only at hSw); go_simp; (try with_reducible rfl); (try (first | (rw [if_pos (by omega)]; (try go_simp); (try with_reducible rfl)) | (rw [if_neg (by omega)]; (try go_simp); (try with_reducible rfl)))))
      try simp only [Act.put, zA, zB, zC]
      refine wpAnyR_takeQ (i := 7) (v := ?_) (some 41) rfl rfl (by kernel_rfl) (by kernel_rfl) (by kernel_rfl) (by kernel_rfl) (fun _ _ _ h => h) (Or.inl ⟨by rfl, ?_⟩) ?_
      rotate_left
      focus (intro wS hSw; (try dsimp only at hSw); go_simp; (try with_reducible rfl); (try (first | (rw [if_pos (by omega)]; (try go_simp); (try with_reducible rfl)) | (rw [if_neg (by omega)]; (try go_simp); (try with_reducible rfl)))))
      try simp only [Act.put, zA, zB, zC]
      refine wpAnyR_n1 (i := 6) rfl (by kernel_rfl) ?_
      intro K' hK
      rw [if_pos (by rfl)]
      simp only [List.getElem_toArray, List.getElem_cons_succ, List.getElem_cons_zero]
      go_wp2_with fail
      refine (CT _ (HGA.out.trans HGD.out)).mono ?_
      rintro e wa ⟨rfl, ga⟩
      go_wp2_with fail
      refine hK.out _ _ (.inr (fun _ => HSG.out _ ga)) ?_
      clear hK hS
      have hS := HSG.out _ ga
      refine wpAnyR_n1 (i := 8) rfl (by kernel_rfl) ?_
      intro K' hK
      rw [if_pos (by rfl)]
      simp only [List.getElem_toArray, List.getElem_cons_succ, List.getElem_cons_zero]
      go_wp2_with fail
      refine (CD _).mono ?_
      rintro e wb ⟨A9, c9, rfl, hla, gb, hnew⟩
      have gab := ga.trans gb
      go_wp2_with fail
      refine hK.out _ _ (.inr (fun _ => HSG.out _ gab)) ?_
      clear hK hS
      have hS := HSG.out _ gab
      have gwb := HGD.out.trans gab
      have htob := HTO.out.hold gwb
      have hkt : k < (ls ++ List.replicate (m - k) labZ).length := by omega
      obtain ⟨B9, d9, hrow, -, -, -⟩ := htob.row hkt
      have y0 := htob.own.cell0 hrow rfl
      have y1 := htob.own.cell hrow (i := 1) rfl
      have y2 := htob.own.cell hrow (i := 2) rfl
      have y3 := htob.own.cell hrow (i := 3) rfl
      have y4 := htob.own.cell hrow (i := 4) rfl
      have yf0 := htob.own.frozen (k * 5)
      have yf1 := htob.own.frozen (k * 5 + 1)
      have yf2 := htob.own.frozen (k * 5 + 2)
      have yf3 := htob.own.frozen (k * 5 + 3)
      have yf4 := htob.own.frozen (k * 5 + 4)
      have hgw2 := htob.own.block_lt.2
      have hgsa : wr.heap.size ≤ wa.heap.size := ga.size
      have hfar : 0 < l.ext.length → ∀ b off, A9 = some ⟨b, off, none⟩ → b ≠ g := fun _ b off e => by have := hnew b off e; omega
      have ht3 := htob.set5 hkt ⟨A9, c9, l⟩ hla hfar
      have tu := set5_turned wb g (k * 5) (.int .i64 l.id) (.int .i64 l.unit) (.string l.name) (.string l.note) (.slice A9 l.ext.length c9)
      have hbt3 := (HBT.out.grew gwb).turned tu (fun e => (HTO.out.own.ne_blk HBT.out (by decide)) (by rw [e]; rfl))
      have hg3 := (HG.out.trans gwb).turn tu (fun i e => by omega)
      have HT3 := Lib.hid ht3
      have HBT3 := Lib.hid hbt3
      have HGG3 := Lib.hid hg3
      clear htob hrow hla hnew hfar ht3 hbt3 hg3 tu
      refine wpAnyR_takeQ (i := 9) (v := ?_) (some 33) rfl rfl (by kernel_rfl) (by kernel_rfl) (by kernel_rfl) (by kernel_rfl) (fun _ _ _ h => h) (Or.inl ⟨by rfl, ?_⟩) ?_
      rotate_left
      focus (intro wS hSw; (try dsimp only at hSw); go_simp; (try with_reducible rfl); (try (first | (rw [if_pos (by omega)]; (try go_simp); (try with_reducible rfl)) | (rw [if_neg (by omega)]; (try go_simp); (try with_reducible rfl)))))
      try simp only [Act.put, zA, zB, zC]
      refine wpAnyR_takeQ (i := 10) (v := ?_) (some 43) rfl rfl (by kernel_rfl) (by kernel_rfl) (by kernel_rfl) (by kernel_rfl) (fun _ _ _ h => h) (Or.inl ⟨by rfl, ?_⟩) ?_
      rotate_left
      focus (intro wS hSw; (try dsimp only at hSw); go_simp; (try with_reducible rfl); (try (first | (rw [if_pos (by omega)]; (try go_simp); (try with_reducible rfl)) | (rw [if_neg (by omega)]; (try go_simp); (try with_reducible rfl)))))
      try simp only [Act.put, zA, zB, zC]
      refine wpAnyR_takeQ (i := 11) (v := ?_) (some 44) rfl rfl (by kernel_rfl) (by kernel_rfl) (by kernel_rfl) (by kernel_rfl) (fun _ _ _ h => h) (Or.inl ⟨by rfl, ?_⟩) ?_
      rotate_left
      focus (intro wS hSw; (try dsimp only at hSw); go_simp; (try with_reducible rfl); (try (first | (rw [if_pos (by omega)]; (try go_simp); (try with_reducible rfl)) | (rw [if_neg (by omega)]; (try go_simp); (try with_reducible rfl)))))
      try simp only [Act.put, zA, zB, zC]
      refine wpAnyR_takeQ (i := 12) (v := ?_) (some 45) rfl rfl (by kernel_rfl) (by kernel_rfl) (by kernel_rfl) (by kernel_rfl) (fun _ _ _ h => h) (Or.inl ⟨by rfl, ?_⟩) ?_
      rotate_left
      focus (intro wS hSw; (try dsimp only at hSw); go_simp; (try with_reducible rfl); (try (first | (rw [if_pos (by omega)]; (try go_simp); (try with_reducible rfl)) | (rw [if_neg (by omega)]; (try go_simp); (try with_reducible rfl)))))
      try simp only [Act.put, zA, zB, zC]
      refine wpAnyR_n1 (i := 13) rfl (by kernel_rfl) ?_
      intro K' hK
      rw [if_pos (by rfl)]
      simp only [List.getElem_toArray, List.getElem_cons_succ, List.getElem_cons_zero]
      go_wp2_with fail
      refine hK.out _ _ (.inl rfl) ?_
      clear hK
      refine wpAnyR_takeQ (i := 14) (v := ?_) (some 6) rfl rfl (by kernel_rfl) (by kernel_rfl) (by kernel_rfl) (by kernel_rfl) (fun _ _ _ h => h) (Or.inl ⟨by rfl, ?_⟩) ?_
      rotate_left
      focus (intro wS hSw; (try dsimp only at hSw); go_simp; (try with_reducible rfl); (try (first | (rw [if_pos (by omega)]; (try go_simp); (try with_reducible rfl)) | (rw [if_neg (by omega)]; (try go_simp); (try with_reducible rfl)))))
      try simp only [Act.put, zA, zB, zC]
      refine wpAnyR_done (by kernel_rfl) ?_ _
      obtain ⟨w5, hw5⟩ : ∃ W, W = (((((wb.setCell ⟨g, k * 5, none⟩ (.int .i64 l.id)).setCell ⟨g, k * 5 + 1, none⟩ (.int .i64 l.unit)).setCell ⟨g, k * 5 + 2, none⟩ (.string l.name)).setCell ⟨g, k * 5 + 3, none⟩ (.string l.note)).setCell ⟨g, k * 5 + 4, none⟩ (.slice A9 l.ext.length c9)) := ⟨_, rfl⟩
      rw [← hw5] at HT3 HBT3 HGG3 ⊢
      clear hS y0 y1 y2 y3 y4 yf0 yf1 yf2 yf3 yf4 hgw2 hw5 x2 hlw
      rcases decP_pair (trkS ss (k + 1)) tt with ⟨l', hd, hle⟩ | hd
      · rw [HD.out] at hd
        injection hd with e1 e2
        subst e1; subst e2
        have HEQ := Lib.hid (show (ls ++ List.replicate (m - k) labZ).set k l = (ls ++ [l]) ++ List.replicate (m - (k + 1)) labZ from by
          have := set_mid ls (m - k) (by omega) l
          rw [HLK.out] at this
          rw [this]
          congr 2)
        have HDE := Lib.hid (dec_snoc HDEC.out (by rw [HLK.out]; exact HD.out))
        go_wp2_with fail
        go_roundg (m - (k + 1))
        case measure => rw [HGK.out]; omega
        case rel => exact ⟨k + 1, _, ls ++ [l], by omega, by omega, by go_num, by rw [List.length_append, HLK.out]; rfl, HDE.out, ext_snoc HSM.out hle, by rw [← HEQ.out]; exact HT3.out, HBT3.out, HGG3.out⟩
      · have HE := Lib.hid (ld_dec ss nm tt HH.out k (by have := HTS.out; omega) hd)
        rw [HD.out] at hd
        injection hd with e1 e2
        subst e1; subst e2
        have hb2 := HB3.out.grew HGG3.out
        have hgg := HG3.out.trans HGG3.out
        clear hw3
        have z0 := hb2.cell 0
        have z1 := hb2.cell 1
        have z2 := hb2.cell 2
        have f0 := hb2.frozen 0
        have f1 := hb2.frozen 1
        have f2 := hb2.frozen 2
        have hlb := hb2.lt
        go_wp2_with fail
        refine bodyPost_ret (by first | (simp [*, results, Tryz.results27, go_sem]; rfl) | simp [*, results, Tryz.results27, go_sem]) rfl ?_
        exact ⟨none, 0, [], tabZ, 11, rfl, HE.out, small_zero, TabAt.zero _, by (repeat' first | (with_reducible exact Grew.refl _) | (with_reducible assumption) | (with_reducible refine Grew.alloc ?_ _) | (with_reducible refine Grew.drew ?_) | (with_reducible refine Grew.drewN ?_ _) | (with_reducible refine Grew.setRow ?_ (by first | (simp; done) | (simp; omega) | omega) _) | (with_reducible refine Grew.setCell ?_ (by first | (simp; done) | (simp; omega) | omega) _) | ((with_reducible apply Grew.trans); rotate_left; (with_reducible assumption)) | ((with_reducible apply Grew.turn); rotate_left; (with_reducible assumption); (focus (intro i hi; first | omega | (simp at hi; omega)))) | fail)⟩
    · have hkm : k = m := by omega
      subst hkm
      have HTL := Lib.hid (show TabO wr w3.heap.size (.slice A7 k c7) ys ls from by have := HTO.out; rw [Nat.sub_self, List.replicate_zero, List.append_nil] at this; exact this)
      obtain ⟨A8, c8, hv8, hfm⟩ := HTL.out.form
      rw [HLK.out] at hv8
      injection hv8 with hv1 _ hv2
      subst hv1; subst hv2
      obtain ⟨T, hT⟩ : ∃ T : Tab, T = ⟨nm, tt, ls⟩ := ⟨_, rfl⟩
      have htab := hfm nm tt (by omega) (by omega) (by omega)
      have hlT : T.labels.length = k := by rw [hT]; exact HLK.out
      have hsmT : SmallT T := by rw [hT]; exact ⟨by show ls.length ≤ 1000; have := HLK.out; omega, HSM.out⟩
      have hshort := sec_short T hsmT.len
      rw [← hT] at htab
      have HTAB := Lib.hid htab
      have HST := Lib.hid hsmT
      have CV := fun w9 (g9 : Grew wr w9) => rvalid_tab A7 c7 ys T w9 (htab.hold g9) hsmT k hlT.symm
      have CS := fun w9 (g9 : Grew wr w9) => rsectors_tab A7 c7 ys T w9 (htab.hold g9) hsmT
      rw [hlT] at CS
      have HEND := Lib.hid (fun hno => ld_end ss nm tt ls HH.out (by rw [HLK.out]; exact HSL.out) HDEC.out hno)
      rw [← hT] at HEND
      have HTE := Lib.hid hT
      have htn : T.name = nm := by rw [hT]
      have htt : T.tracks = tt := by rw [hT]
      rw [htn, htt] at CV CS
      have HTN := Lib.hid htn
      have HTK := Lib.hid htt
      have HLT := Lib.hid hlT
      have x0 := HBT.out.cell 0
      have x1 := HBT.out.cell 1
      clear hto hfm htab hsmT hT htn htt hlT hyl hll
      cases hv : validT T with
      | false =>
        have HE := Lib.hid (HEND.out (fun h9 => by rw [hv] at h9; cases h9.1))
        rw [hv] at CV
        clear hv
        go_wp2_with fail
        refine (CV _ (Grew.refl _)).mono ?_
        rintro e w8 ⟨rfl, g8⟩
        have hb2 := (HB3.out.grew HG.out).grew g8
        have hgg := HGA.out.trans g8
        clear hw3 x0 x1 x2 hlw g8
        have z0 := hb2.cell 0
        have z1 := hb2.cell 1
        have z2 := hb2.cell 2
        have f0 := hb2.frozen 0
        have f1 := hb2.frozen 1
        have f2 := hb2.frozen 2
        have hlb := hb2.lt
        go_wp2_with fail
        refine bodyPost_ret (by first | (simp [*, results, Tryz.results27, go_sem]; rfl) | simp [*, results, Tryz.results27, go_sem]) rfl ?_
        exact ⟨none, 0, [], tabZ, 11, rfl, HE.out, small_zero, TabAt.zero _, by (repeat' first | (with_reducible exact Grew.refl _) | (with_reducible assumption) | (with_reducible refine Grew.alloc ?_ _) | (with_reducible refine Grew.drew ?_) | (with_reducible refine Grew.drewN ?_ _) | (with_reducible refine Grew.setRow ?_ (by first | (simp; done) | (simp; omega) | omega) _) | (with_reducible refine Grew.setCell ?_ (by first | (simp; done) | (simp; omega) | omega) _) | ((with_reducible apply Grew.trans); rotate_left; (with_reducible assumption)) | ((with_reducible apply Grew.turn); rotate_left; (with_reducible assumption); (focus (intro i hi; first | omega | (simp at hi; omega)))) | fail)⟩
      | true =>
        have HVT := Lib.hid hv
        rw [hv] at CV
        clear hv
        go_wp2_with fail
        refine (CV _ (Grew.refl _)).mono ?_
        rintro e w8 ⟨rfl, g8⟩
        have HG8 := Lib.hid g8
        have hbt8 := HBT.out.grew g8
        clear x0 x1 x2 hlw g8
        have x0 := hbt8.cell 0
        have x1 := hbt8.cell 1
        have x2 := hbt8.cell 2
        have hlw := hbt8.lt
        clear hbt8
        go_wp2_with fail
        refine (CS _ HG8.out).mono ?_
        rintro e w9 ⟨v9, rfl, ho9, g9⟩
        obtain ⟨A9, c9, rfl, -, -, hr9⟩ := ho9.listAt
        have hg89 := HG8.out.trans g9
        have HG9 := Lib.hid hg89
        have CT := fun r hr => texts_any A9 A c9 c (secT T) ss w9 hr9 (HLW.out _ (HGA.out.trans hg89)) (by omega) (by omega) r hr
        try rw [List.length_map]
        clear x0 x1 x2 hlw g9 hg89 ho9 hr9
        by_cases hsec : secT T = ss
        · have C := CT true (decide_eq_true hsec)
          have HE := Lib.hid (show LdS ss T 0 from .inl ⟨⟨HVT.out, hsec⟩, rfl⟩)
          clear hsec CT
          go_wp2_with fail
          refine C.mono ?_
          rintro e wc ⟨rfl, gc⟩
          have hgc := HG9.out.trans gc
          have hbtc := HBT.out.grew hgc
          have hb2 := (HB3.out.grew HG.out).grew hgc
          have hgg := HGA.out.trans hgc
          have HTC := Lib.hid (HTL.out.hold hgc)
          have HAP := Lib.hid ((HTL.out.hold hgc).apart hb2)
          have x0 := hbtc.cell 0
          have x1 := hbtc.cell 1
          have x2 := hbtc.cell 2
          have hlw := hbtc.lt
          clear gc hgc hbtc hw3
          have z0 := hb2.cell 0
          have z1 := hb2.cell 1
          have z2 := hb2.cell 2
          have f0 := hb2.frozen 0
          have f1 := hb2.frozen 1
          have f2 := hb2.frozen 2
          have hlb := hb2.lt
          have HGG := Lib.hid hgg
          clear hb2 hgg
          go_wp2_with fail
          refine bodyPost_ret (by first | (simp [*, results, Tryz.results27, go_sem]; rfl) | simp [*, results, Tryz.results27, go_sem]) rfl ?_
          refine ⟨A7, c7, ys, T, 0, by rw [HTN.out, HTK.out, HLT.out], HE.out, HST.out, ?_, by have hgg := HGG.out; (repeat' first | (with_reducible exact Grew.refl _) | (with_reducible assumption) | (with_reducible refine Grew.alloc ?_ _) | (with_reducible refine Grew.drew ?_) | (with_reducible refine Grew.drewN ?_ _) | (with_reducible refine Grew.setRow ?_ (by first | (simp; done) | (simp; omega) | omega) _) | (with_reducible refine Grew.setCell ?_ (by first | (simp; done) | (simp; omega) | omega) _) | ((with_reducible apply Grew.trans); rotate_left; (with_reducible assumption)) | ((with_reducible apply Grew.turn); rotate_left; (with_reducible assumption); (focus (intro i hi; first | omega | (simp at hi; omega)))) | fail)⟩
          have hto9 : TabO (((wc.setCell ⟨w.heap.size, 0, none⟩ (.string nm)).setCell ⟨w.heap.size, 1, none⟩ (.int .i64 tt)).setCell ⟨w.heap.size, 2, none⟩ (.slice A7 k c7)) w3.heap.size (.slice A7 k c7) ys ls := HTC.out.turned (S := fun q => q = w.heap.size) (by (repeat' first | (with_reducible exact Turned.refl _ _) | (with_reducible assumption) | (with_reducible refine Turned.alloc ?_ _) | (with_reducible refine Turned.drew ?_) | (with_reducible refine Turned.drewN ?_ _) | (with_reducible refine Turned.setRow ?_ (by first | (simp; done) | (simp; omega) | omega) _) | (with_reducible refine Turned.setCell ?_ (by first | (simp; done) | (simp; omega) | omega) _) | ((with_reducible apply Turned.andGrew); rotate_left; (with_reducible assumption)) | ((with_reducible apply Turned.trans); rotate_left; (with_reducible assumption)) | fail)) (fun q hq => by have h1 := (HTC.out.own.own_ge hq).1; have h2 := HB3.out.lt; omega) (fun y hy h0 b off e => HAP.out y hy h0 b off e)
          obtain ⟨A8, c8, hv8, hfm⟩ := hto9.form
          rw [HLK.out] at hv8
          injection hv8 with hv1 _ hv2
          subst hv1; subst hv2
          have := hfm nm tt (by omega) (by omega) (by omega)
          have hT := HTE.out
          rw [hT]
          exact this
        · have C := CT false (decide_eq_false hsec)
          have HE := Lib.hid (HEND.out (fun h9 => hsec h9.2))
          clear hsec CT
          go_wp2_with fail
          refine C.mono ?_
          rintro e wc ⟨rfl, gc⟩
          have hgc := HG9.out.trans gc
          have hb2 := (HB3.out.grew HG.out).grew hgc
          have hgg := HGA.out.trans hgc
          clear gc hgc hw3
          have z0 := hb2.cell 0
          have z1 := hb2.cell 1
          have z2 := hb2.cell 2
          have f0 := hb2.frozen 0
          have f1 := hb2.frozen 1
          have f2 := hb2.frozen 2
          have hlb := hb2.lt
          go_wp2_with fail
          refine bodyPost_ret (by first | (simp [*, results, Tryz.results27, go_sem]; rfl) | simp [*, results, Tryz.results27, go_sem]) rfl ?_
          exact ⟨none, 0, [], tabZ, 11, rfl, HE.out, small_zero, TabAt.zero _, by (repeat' first | (with_reducible exact Grew.refl _) | (with_reducible assumption) | (with_reducible refine Grew.alloc ?_ _) | (with_reducible refine Grew.drew ?_) | (with_reducible refine Grew.drewN ?_ _) | (with_reducible refine Grew.setRow ?_ (by first | (simp; done) | (simp; omega) | omega) _) | (with_reducible refine Grew.setCell ?_ (by first | (simp; done) | (simp; omega) | omega) _) | ((with_reducible apply Grew.trans); rotate_left; (with_reducible assumption)) | ((with_reducible apply Grew.turn); rotate_left; (with_reducible assumption); (focus (intro i hi; first | omega | (simp at hi; omega)))) | fail)⟩
end Go.Proofs.YtnlaogneceanoaaGreat
namespace Go.Proofs.YtnlaogneceanoaaGreat
set_option linter.unusedVariables false
set_option linter.unusedSimpArgs false
set_option linter.unusedSectionVars false
open Go.RowKit
attribute [local go_sem ↓] Go.wp_at_zero Go.wp_at_succ
section
variable (A : Option Addr) (c : Nat) (xs : List LabE) (T : Tab) (w : World)
set_option maxRecDepth 100000 in
set_option maxHeartbeats 8000000 in
theorem sectors_tab (h : TabAt w A c xs T) (hs : SmallT T) :
    Calls Tryz.prog 29 #[.agg #[.string T.name, .int .i64 T.tracks, .slice A T.labels.length c]] w fun e w' => ∃ v, e = .returned v ∧ OwnL w' w.heap.size 9 1 v ((secT T).map strC) ∧ Grew w w' := by
  have hg0 := (Grew.refl w).alloc (.cells #[.string T.name, .int .i64 T.tracks, .slice A T.labels.length c] 24)
  have HB0 := Lib.hid (Blk.new w 24 #[.string T.name, .int .i64 T.tracks, .slice A T.labels.length c] rfl)
  have HV := Lib.hid (valid_tab A c xs T _ (h.hold hg0) hs _ rfl)
  have HTB := Lib.hid h
  have HS := Lib.hid hs
  have HG0 := Lib.hid hg0
  have hnm := h.name
  have hlen := hs.len
  have HT01 := Lib.hid (show -9223372036854775808 ≤ T.tracks ∧ T.tracks ≤ 9223372036854775807 from ⟨h.tr0, h.tr1⟩)
  clear h hs hg0
  cases hv : validT T with
  | false =>
    have HE := Lib.hid (show secT T = [] from by unfold secT; rw [if_neg (by rw [hv]; simp)])
    have HVF := Lib.hid hv
    clear hv
    go_enter Tryz.func29, Tryz.ntmps29
    go_wp2_with fail
    refine HV.out.mono ?_
    rintro e w1 ⟨rfl, g1⟩
    rw [HVF.out]
    go_wp2_with fail
    go_ret
    exact ⟨_, rfl, by rw [HE.out]; exact OwnL.nil _ _ _ _, HG0.out.trans g1⟩
  | true =>
    have HE := Lib.hid (show secT T = cutS (bodyS T T.labels.length) from by unfold secT; rw [if_pos hv])
    have HVF := Lib.hid hv
    have HBN := Lib.hid (fun k hk => bodyS_next T k hk)
    have HBS := Lib.hid (fun k hk => body_size T hv k hk)
    have HL1 := Lib.hid (fun k (hk : k < T.labels.length) => lab_1024 T.tracks ((validT_iff T).1 hv).tr T.labels[k] (((validT_iff T).1 hv).ok _ (List.getElem_mem hk)))
    have HB00 := Lib.hid (bodyS_zero T)
    clear hv
    go_enter Tryz.func29, Tryz.ntmps29
    go_wp2_with fail
    refine HV.out.mono ?_
    rintro e w1 ⟨rfl, g1⟩
    rw [HVF.out]
    have HB1 := Lib.hid (HB0.out.grew g1)
    have HG1 := Lib.hid (HG0.out.trans g1)
    have x0 := HB1.out.cell 0
    have x1 := HB1.out.cell 1
    have hbl := HB1.out.lt
    clear g1
    go_wp2_with fail
    refine (encHead_any T.name T.tracks _ hnm).mono ?_
    rintro e w2 ⟨rfl, g2⟩
    have HB2 := Lib.hid (HB1.out.grew g2)
    have HG2 := Lib.hid (HG1.out.trans g2)
    clear x0 x1 hbl g2
    have x2 := HB2.out.cell 2
    have hbl := HB2.out.lt
    go_wp2_with fail
    go_loopg [3, 18] T.labels.length (fun gk sv i wr => ∃ k : Nat, k ≤ T.labels.length ∧ gk = T.labels.length - k ∧ i = .int .i64 k ∧ sv = .string (bodyS T k) ∧ Blk wr w.heap.size 24 #[.string T.name, .int .i64 T.tracks, .slice A T.labels.length c] ∧ Grew w wr)
    case atStart => exact ⟨0, by omega, by omega, rfl, by rw [HB00.out], HB2.out, HG2.out⟩
    case round =>
      obtain ⟨k, hk, hgk, rfl, rfl, hb, hg⟩ := hrel
      have HGK := Lib.hid hgk
      have HB := Lib.hid hb
      have HG := Lib.hid hg
      have hbz := HBS.out k hk
      clear hgk x2 hbl
      by_cases hlt : k < T.labels.length
      · obtain ⟨b, off, B, d, l, rfl, hbl5, hxk, hv, hla, c0, c1, c2, c3, c4⟩ := (HTB.out.hold hg).at_ hlt
        have hle := HS.out.ext T.labels[k] (List.getElem_mem hlt)
        rw [hv] at hle
        have hn := HBN.out k hlt
        rw [hv] at hn
        have HN := Lib.hid hn
        have hz := HL1.out k hlt
        rw [hv] at hz
        have hz2 : (encS l T.tracks).size ≤ 1024 := by omega
        have hb2 : (bodyS T k).size ≤ 2000000 := by omega
        have gal : Grew wr (wr.alloc (.cells #[.int .i64 l.id, .int .i64 l.unit, .string l.name, .string l.note, .slice B l.ext.length d] 31)) := (Grew.refl wr).alloc _
        have HLA := Lib.hid (hla.hold gal)
        have HNL := Lib.hid (Blk.new wr 31 #[.int .i64 l.id, .int .i64 l.unit, .string l.name, .string l.note, .slice B l.ext.length d] rfl)
        have HBA := Lib.hid (hb.grew gal)
        have HGA := Lib.hid (hg.trans gal)
        have x1 := hb.cell 1
        have hbl0 := hb.lt
        clear hn hz hbz hv hxk hla hb hg gal
        go_wp2_with fail
        refine (encode_lab B d l T.tracks _ HLA.out (by omega) HT01.out.1 HT01.out.2).mono ?_
        rintro e w4 ⟨rfl, g4⟩
        have HB4 := Lib.hid (HBA.out.grew g4)
        have HG4 := Lib.hid (HGA.out.trans g4)
        clear c0 c1 c2 c3 c4 x1 g4
        go_wp2_with fail
        go_roundg (T.labels.length - (k + 1))
        case measure => rw [HGK.out]; omega
        case rel => exact ⟨k + 1, by omega, by omega, by go_num, by rw [HN.out], HB4.out, HG4.out⟩
      · have hkn : k = T.labels.length := by omega
        subst hkn
        obtain ⟨s, hs⟩ : ∃ s, bodyS T T.labels.length = s := ⟨_, rfl⟩
        rw [hs] at hbz ⊢
        have HSE := Lib.hid (HE.out.trans (by rw [hs]))
        have hcl := cutS_len s
        have hsz : s.size = 1024 * (T.labels.length + 1) := hbz
        have HSZ := Lib.hid hsz
        have hR0 := restS_zero s
        have HR0 := Lib.hid hR0
        clear hs hbz hb hg hR0 hsz
        go_wp2_with fail
        go_loopg [3, 6] (s.size / 128) (fun gk av ov wr' => ∃ k : Nat, k ≤ s.size / 128 ∧ gk = s.size / 128 - k ∧ av = .string (restS s k) ∧ OwnL wr' w.heap.size 9 1 ov (((cutS s).take k).map strC) ∧ Grew w wr')
        case atStart => exact ⟨0, by omega, by omega, by rw [HR0.out], OwnL.nil _ _ _ _, HG.out⟩
        case round =>
          obtain ⟨k, hk, hgk, rfl, hown, hg⟩ := hrel
          have HGK := Lib.hid hgk
          have hgs := hg.size
          clear hgk
          have hrs := restS_size s k (by omega)
          have hcz := HSZ.out
          by_cases hlt : k < s.size / 128
          · have hne : (restS s k).toList.isEmpty = false := by
              cases hq : (restS s k).toList with
              | nil =>
                have h9 : restS s k = ⟨#[]⟩ := bytes_eq (by rw [ByteArray.toList_eq] at hq; simpa using hq)
                have h8 := congrArg ByteArray.size h9
                rw [hrs] at h8
                have h6 : s.size - 128 * k = 0 := h8
                omega
              | cons a l => rfl
            have hr1 : 128 ≤ (restS s k).size := by omega
            have HT := Lib.hid (cutS_take s k (by omega))
            have HH := Lib.hid (restS_head s k (by omega))
            have HN := Lib.hid (restS_next s k (by omega))
            have htl : ((cutS s).take k).length ≤ 100000 := by rw [List.length_take]; omega
            clear hrs hcl hcz
            go_wp2_with (at_builtin; refine wpList_push rfl _ _ 50 rfl w.heap.size 9 1 16 _ Tryz.underlying50 info_str rfl (by decide) _ _ (((cutS s).take k).map strC) (strC ((restS s k).extract 0 128)) (by rfl) rfl rfl hown (by first | rfl | (simp; done)) rfl rfl (by rw [List.length_map]; omega) (by rw [List.length_map]; omega) hgs ?_; intro v' w5 hown5 hgr hbk hsz5)
            go_roundg (s.size / 128 - (k + 1))
            case measure => rw [HGK.out]; omega
            case rel => exact ⟨k + 1, by omega, by omega, by rw [← HN.out], by rw [HT.out, List.map_append, ← HH.out]; exact hown5, hgr _ hg (Nat.le_refl _)⟩
          · have hkn : 128 * k = s.size := by omega
            have he : restS s k = ⟨#[]⟩ := by
              apply ByteArray.ext
              apply Array.eq_empty_of_size_eq_zero
              show (restS s k).size = 0
              omega
            have HF := Lib.hid (show (cutS s).take k = cutS s from List.take_of_length_le (by rw [hcl]; omega))
            have HO := Lib.hid hown
            have HG9 := Lib.hid hg
            rw [he]
            clear hkn he hown hg hrs hcl hcz
            go_wp2_with fail
            go_ret
            exact ⟨_, rfl, by have := HO.out; rw [HF.out] at this; rw [HSE.out]; exact this, HG9.out⟩
end
end Go.Proofs.YtnlaogneceanoaaGreat
namespace Go.Proofs.YtnlaogneceanoaaGreat
set_option linter.unusedVariables false
set_option linter.unusedSimpArgs false
set_option linter.unusedSectionVars false
open Go.RowKit
attribute [local go_sem ↓] Go.wp_at_zero Go.wp_at_succ
theorem diffT_nil0 (T U : Tab) (h : (secT T).length = 0 ∨ (secT U).length = 0) : diffT T U = [] := by
  unfold diffT
  split
  · rename_i hc
    have h0 : (secT T).length = 0 := by omega
    rw [h0]; rfl
  · rfl
theorem diffT_nil1 (T U : Tab) (h : ¬ T.tracks = U.tracks) : diffT T U = [] := by
  unfold diffT
  rw [if_neg (fun hc => h hc.2)]
theorem diffT_full (T U : Tab) (h1 : (secT T).length ≠ 0) (h2 : (secT U).length ≠ 0) (ht : T.tracks = U.tracks) : diffT T U = diffP (secT T) (secT U) (secT U).length := by
  have hl := sec_same T U h1 h2 ht
  unfold diffT
  rw [if_pos ⟨hl, ht⟩, hl]
section
variable (A A2 : Option Addr) (c c2 : Nat) (xs ys : List LabE) (T U : Tab) (w : World)
set_option maxRecDepth 100000 in
set_option maxHeartbeats 8000000 in
theorem changes_tab (h : TabAt w A c xs T) (hs : SmallT T) (h2 : TabAt w A2 c2 ys U) (hs2 : SmallT U) :
    Calls Tryz.prog 32 #[.agg #[.string T.name, .int .i64 T.tracks, .slice A T.labels.length c], .agg #[.string U.name, .int .i64 U.tracks, .slice A2 U.labels.length c2]] w fun e w' => ∃ v, e = .returned v ∧ OwnL w' w.heap.size 98 2 v ((diffT T U).map wrC) ∧ Grew w w' := by
  have hg0 := ((Grew.refl w).alloc (.cells #[.string T.name, .int .i64 T.tracks, .slice A T.labels.length c] 24)).alloc (.cells #[.string U.name, .int .i64 U.tracks, .slice A2 U.labels.length c2] 24)
  have hb0 := (Blk.new w 24 #[.string T.name, .int .i64 T.tracks, .slice A T.labels.length c] rfl).alloc (.cells #[.string U.name, .int .i64 U.tracks, .slice A2 U.labels.length c2] 24)
  have hb1 := Blk.new (w.alloc (.cells #[.string T.name, .int .i64 T.tracks, .slice A T.labels.length c] 24)) 24 #[.string U.name, .int .i64 U.tracks, .slice A2 U.labels.length c2] (n := w.heap.size + 1) (by simp)
  have HB0 := Lib.hid hb0
  have HB1 := Lib.hid hb1
  have HT := Lib.hid h
  have HU := Lib.hid h2
  have HS := Lib.hid hs
  have HS2 := Lib.hid hs2
  have HG0 := Lib.hid hg0
  have hst := sec_short T hs.len
  have hsu := sec_short U hs2.len
  have HSG := Lib.hid (show ∀ w1 : World, Grew ((w.alloc (.cells #[.string T.name, .int .i64 T.tracks, .slice A T.labels.length c] 24)).alloc (.cells #[.string U.name, .int .i64 U.tracks, .slice A2 U.labels.length c2] 24)) w1 → (fun w' : World => w'.cell? ⟨w.heap.size, 0, none⟩ = some (.string T.name) ∧ w'.cell? ⟨w.heap.size, 1, none⟩ = some (.int .i64 T.tracks) ∧ w'.cell? ⟨w.heap.size, 2, none⟩ = some (.slice A T.labels.length c) ∧ w'.cell? ⟨w.heap.size + 1, 0, none⟩ = some (.string U.name) ∧ w'.cell? ⟨w.heap.size + 1, 1, none⟩ = some (.int .i64 U.tracks) ∧ w'.cell? ⟨w.heap.size + 1, 2, none⟩ = some (.slice A2 U.labels.length c2)) w1 from fun w1 g => ⟨(hb0.grew g).cell 0, (hb0.grew g).cell 1, (hb0.grew g).cell 2, (hb1.grew g).cell 0, (hb1.grew g).cell 1, (hb1.grew g).cell 2⟩)
  have hS := HSG.out _ (Grew.refl ((w.alloc (.cells #[.string T.name, .int .i64 T.tracks, .slice A T.labels.length c] 24)).alloc (.cells #[.string U.name, .int .i64 U.tracks, .slice A2 U.labels.length c2] 24))).drew
  have HGD := Lib.hid ((Grew.refl ((w.alloc (.cells #[.string T.name, .int .i64 T.tracks, .slice A T.labels.length c] 24)).alloc (.cells #[.string U.name, .int .i64 U.tracks, .slice A2 U.labels.length c2] 24))).drew)
  clear h hs h2 hs2 hb0 hb1 hg0
  go_enter Tryz.func32, Tryz.ntmps32
  go_wp2_with fail
  obtain ⟨w0, hw0⟩ : ∃ w0, w0 = (w.alloc (.cells #[.string T.name, .int .i64 T.tracks, .slice A T.labels.length c] 24)).alloc (.cells #[.string U.name, .int .i64 U.tracks, .slice A2 U.labels.length c2] 24) := ⟨_, rfl⟩
  have hw0s : w0.heap.size = w.heap.size + 2 := by rw [hw0]; simp
  rw [← hw0] at HB0 HB1 HG0 HSG HGD hS ⊢
  clear hw0
  refine wp_region_R [] (fun w' : World => w'.cell? ⟨w.heap.size, 0, none⟩ = some (.string T.name) ∧ w'.cell? ⟨w.heap.size, 1, none⟩ = some (.int .i64 T.tracks) ∧ w'.cell? ⟨w.heap.size, 2, none⟩ = some (.slice A T.labels.length c) ∧ w'.cell? ⟨w.heap.size + 1, 0, none⟩ = some (.string U.name) ∧ w'.cell? ⟨w.heap.size + 1, 1, none⟩ = some (.int .i64 U.tracks) ∧ w'.cell? ⟨w.heap.size + 1, 2, none⟩ = some (.slice A2 U.labels.length c2)) (by kernel_rfl) ?_
  refine wpAnyR_take (i := 0) (v := ?_) [1, 3, 4, 5] (some 9) rfl rfl (by kernel_rfl) (by kernel_rfl) (by kernel_rfl) (by kernel_rfl) (by kernel_rfl) (by kernel_rfl) (by kernel_rfl) (fun _ _ _ h => h) (Or.inl ⟨by rfl, ?_⟩) hS ?_
  rotate_left
  focus (intro wS hSw; (try dsimp only at hSw); go_simp; (try with_reducible rfl); (try (first | (rw [if_pos (by omega)]; (try go_simp); (try with_reducible rfl)) | (rw [if_neg (by omega)]; (try go_simp); (try with_reducible rfl)))))
  try simp only [Act.put, zA, zB, zC]
  refine wpAnyR_take (i := 2) (v := ?_) [3, 4, 5] (some 11) rfl rfl (by kernel_rfl) (by kernel_rfl) (by kernel_rfl) (by kernel_rfl) (by kernel_rfl) (by kernel_rfl) (by kernel_rfl) (fun _ _ _ h => h) (Or.inl ⟨by rfl, ?_⟩) hS ?_
  rotate_left
  focus (intro wS hSw; (try dsimp only at hSw); go_simp; (try with_reducible rfl); (try (first | (rw [if_pos (by omega)]; (try go_simp); (try with_reducible rfl)) | (rw [if_neg (by omega)]; (try go_simp); (try with_reducible rfl)))))
  try simp only [Act.put, zA, zB, zC]
  refine wpAnyR_n1 (i := 1) rfl (by kernel_rfl) ?_
  intro K' hK
  rw [if_pos (by rfl)]
  simp only [List.getElem_toArray, List.getElem_cons_succ, List.getElem_cons_zero]
  go_wp2_with fail
  refine (sectors_tab A c xs T _ (HT.out.hold (HG0.out.trans HGD.out)) HS.out).mono ?_
  rintro e w3 ⟨v3, rfl, ho3, g3⟩
  have G3 := HGD.out.trans g3
  obtain ⟨A3, c3, rfl, hl3, hc3, hr3⟩ := ho3.listAt
  go_wp2_with fail
  refine hK.out _ _ (.inr (fun _ => HSG.out _ G3)) ?_
  clear hK hS
  have hS := HSG.out _ G3
  refine wpAnyR_n1 (i := 3) rfl (by kernel_rfl) ?_
  intro K' hK
  rw [if_pos (by rfl)]
  simp only [List.getElem_toArray, List.getElem_cons_succ, List.getElem_cons_zero]
  go_wp2_with fail
  refine (sectors_tab A2 c2 ys U _ (HU.out.hold (HG0.out.trans G3)) HS2.out).mono ?_
  rintro e w4 ⟨v4, rfl, ho4, g4⟩
  have G4 := G3.trans g4
  obtain ⟨A4, c4, rfl, hl4, hc4, hr4⟩ := ho4.listAt
  go_wp2_with fail
  refine hK.out _ _ (.inr (fun _ => HSG.out _ G4)) ?_
  clear hK hS
  have hS := HSG.out _ G4
  refine wpAnyR_takeQ (i := 4) (v := ?_) (some 5) rfl rfl (by kernel_rfl) (by kernel_rfl) (by kernel_rfl) (by kernel_rfl) (fun _ _ _ h => h) (Or.inl ⟨by rfl, ?_⟩) ?_
  rotate_left
  focus (intro wS hSw; (try dsimp only at hSw); go_simp; (try with_reducible rfl); (try (first | (rw [if_pos (by omega)]; (try go_simp); (try with_reducible rfl)) | (rw [if_neg (by omega)]; (try go_simp); (try with_reducible rfl)))))
  try simp only [Act.put, zA, zB, zC]
  refine wpAnyR_takeQ (i := 5) (v := ?_) (some 6) rfl rfl (by kernel_rfl) (by kernel_rfl) (by kernel_rfl) (by kernel_rfl) (fun _ _ _ h => h) (Or.inl ⟨by rfl, ?_⟩) ?_
  rotate_left
  focus (intro wS hSw; (try dsimp only at hSw); go_simp; (try with_reducible rfl); (try (first | (rw [if_pos (by omega)]; (try go_simp); (try with_reducible rfl)) | (rw [if_neg (by omega)]; (try go_simp); (try with_reducible rfl)))))
  try simp only [Act.put, zA, zB, zC]
  refine wpAnyR_done (by kernel_rfl) ?_ _
  have HB2 := Lib.hid (HB0.out.grew G4)
  have HB3 := Lib.hid (HB1.out.grew G4)
  have HG4 := Lib.hid (HG0.out.trans G4)
  have HL3 := Lib.hid (hr3.keep (Nat.le_refl _) g4)
  have HL4 := Lib.hid hr4
  have hz3 : w3.heap.size ≤ w4.heap.size := g4.size
  have x1 := HB2.out.cell 1
  have u1 := HB3.out.cell 1
  have hbl := HB2.out.lt
  have hcl := HB3.out.lt
  clear hS ho3 ho4 hr3 hr4 g3 g4 G3 G4 hl3 hl4 hc3 hc4 HSG HGD
  have hn3 : (((secT T).map strC).length) = (secT T).length := List.length_map ..
  by_cases h0 : (secT T).length = 0
  · have hb : (((secT T).length : Int) == 0) = true := by rw [beq_iff_eq]; omega
    have HD := Lib.hid (diffT_nil0 T U (.inl h0))
    clear h0
    go_wp2_with fail
    go_ret
    exact ⟨_, rfl, by rw [HD.out]; exact OwnL.nil _ _ _ _, HG4.out⟩
  have hb : (((secT T).length : Int) == 0) = false := by rw [beq_eq_false_iff_ne]; omega
  by_cases h1 : (secT U).length = 0
  · have hc : (((secT U).length : Int) == 0) = true := by rw [beq_iff_eq]; omega
    have HD := Lib.hid (diffT_nil0 T U (.inr h1))
    clear h0 h1
    go_wp2_with fail
    go_ret
    exact ⟨_, rfl, by rw [HD.out]; exact OwnL.nil _ _ _ _, HG4.out⟩
  have hc : (((secT U).length : Int) == 0) = false := by rw [beq_eq_false_iff_ne]; omega
  by_cases ht : T.tracks = U.tracks
  rotate_left
  · have hd : (T.tracks != U.tracks) = true := by rw [bne_iff_ne]; exact ht
    have HD := Lib.hid (diffT_nil1 T U ht)
    clear h0 h1 ht
    go_wp2_with fail
    go_ret
    exact ⟨_, rfl, by rw [HD.out]; exact OwnL.nil _ _ _ _, HG4.out⟩
  have hd : (T.tracks != U.tracks) = false := by rw [bne_eq_false_iff_eq]; exact ht
  have HD := Lib.hid (diffT_full T U h0 h1 ht)
  have hsl := sec_same T U h0 h1 ht
  have HNX := Lib.hid (fun k (h1 : k < (secT T).length) (h2 : k < (secT U).length) => diffP_eq (secT T) (secT U) k h1 h2)
  have HNY := Lib.hid (fun k (h1 : k < (secT T).length) (h2 : k < (secT U).length) => diffP_ne (secT T) (secT U) k h1 h2)
  have HSL := Lib.hid hsl
  clear h0 h1 ht x1 u1 hsl
  have x1 := HB2.out.cell 1
  have u1 := HB3.out.cell 1
  generalize secT T = X at *
  generalize secT U = Y at *
  go_wp2_with fail
  go_loopg [7, 30] Y.length (fun gk ov i wr => ∃ k : Nat, k ≤ Y.length ∧ gk = Y.length - k ∧ i = .int .i64 k ∧ OwnL wr w4.heap.size 98 2 ov ((diffP X Y k).map wrC) ∧ Grew w4 wr)
  case atStart => exact ⟨0, by omega, by omega, rfl, OwnL.nil _ _ _ _, Grew.refl _⟩
  case round =>
    obtain ⟨k, hk, hgk, rfl, hown, hg⟩ := hrel
    have HGK := Lib.hid hgk
    have HG := Lib.hid hg
    have hgs := hg.size
    clear hgk hb hc hd x1 u1
    by_cases hlt : k < Y.length
    · have hlx : k < X.length := by have := HSL.out; omega
      obtain ⟨b1, o1, rfl, hb1, hc1⟩ := HL3.out (by rw [List.length_map]; omega)
      obtain ⟨b2, o2, rfl, hb2, hc2⟩ := HL4.out (by rw [List.length_map]; omega)
      obtain ⟨x, hx⟩ : ∃ x, X[k] = x := ⟨_, rfl⟩
      obtain ⟨y, hy⟩ : ∃ y, Y[k] = y := ⟨_, rfl⟩
      have hb1 : b1 < w4.heap.size := by omega
      have q0 : wr.cell? ⟨b1, o1 + k, none⟩ = some (.string x) := by
        rw [hg.cellEq _ _ hb1]
        have := hc1 k (strC x) (by rw [List.getElem?_map, List.getElem?_eq_getElem hlx, hx]; rfl) 0 _ rfl
        simpa using this
      have p0 : wr.cell? ⟨b2, o2 + k, none⟩ = some (.string y) := by
        rw [hg.cellEq _ _ hb2]
        have := hc2 k (strC y) (by rw [List.getElem?_map, List.getElem?_eq_getElem hlt, hy]; rfl) 0 _ rfl
        simpa using this
      have hb1r := Nat.lt_of_lt_of_le hb1 hgs
      have hb2r := Nat.lt_of_lt_of_le hb2 hgs
      have hS : (fun w' : World => w'.cell? ⟨b1, o1 + k, none⟩ = some (.string x) ∧ w'.cell? ⟨b2, o2 + k, none⟩ = some (.string y)) wr.drew := ⟨q0, p0⟩
      have HOWN := Lib.hid hown
      have hdl := diffP_len X Y k
      clear hc1 hc2 hg hown
      by_cases he : x = y
      · have HQ := Lib.hid (show (x.toList == y.toList) = true from by rw [he, beq_iff_eq])
        have HN := Lib.hid (show diffP X Y (k + 1) = diffP X Y k from HNX.out k hlx hlt (by rw [hx, hy, he]))
        clear he hx hy
        go_wp2_with fail
        refine wp_region_R [] (fun w' : World => w'.cell? ⟨b1, o1 + k, none⟩ = some (.string x) ∧ w'.cell? ⟨b2, o2 + k, none⟩ = some (.string y)) (by kernel_rfl) ?_
        refine wpAnyR_takeQ (i := 0) (v := ?_) (some 33) rfl rfl (by kernel_rfl) (by kernel_rfl) (by kernel_rfl) (by kernel_rfl) (fun _ _ _ h => h) (Or.inl ⟨by rfl, ?_⟩) ?_
        rotate_left
        focus (intro wS hSw; (try dsimp only at hSw); go_simp; (try with_reducible rfl); (try (first | (rw [if_pos (by omega)]; (try go_simp); (try with_reducible rfl)) | (rw [if_neg (by omega)]; (try go_simp); (try with_reducible rfl)))))
        try simp only [Act.put, zA, zB, zC]
        refine wpAnyR_takeQ (i := 1) (v := ?_) (some 34) rfl rfl (by kernel_rfl) (by kernel_rfl) (by kernel_rfl) (by kernel_rfl) (fun _ _ _ h => h) (Or.inl ⟨by rfl, ?_⟩) ?_
        rotate_left
        focus (intro wS hSw; (try dsimp only at hSw); go_simp; (try with_reducible rfl); (try (first | (rw [if_pos (by omega)]; (try go_simp); (try with_reducible rfl)) | (rw [if_neg (by omega)]; (try go_simp); (try with_reducible rfl)))))
        try simp only [Act.put, zA, zB, zC]
        refine wpAnyR_takeQ (i := 2) (v := ?_) (some 35) rfl rfl (by kernel_rfl) (by kernel_rfl) (by kernel_rfl) (by kernel_rfl) (fun _ _ _ h => h) (Or.inl ⟨by rfl, ?_⟩) ?_
        rotate_left
        focus (intro wS hSw; (try dsimp only at hSw); go_simp; (try with_reducible rfl); (try (first | (rw [if_pos (by omega)]; (try go_simp); (try with_reducible rfl)) | (rw [if_neg (by omega)]; (try go_simp); (try with_reducible rfl)))))
        try simp only [Act.put, zA, zB, zC]
        refine wpAnyR_take (i := 3) (v := ?_) [8] (some 36) rfl rfl (by kernel_rfl) (by kernel_rfl) (by kernel_rfl) (by kernel_rfl) (by kernel_rfl) (by kernel_rfl) (by kernel_rfl) (fun _ _ _ h => h) (Or.inl ⟨by rfl, ?_⟩) hS ?_
        rotate_left
        focus (intro wS hSw; (try dsimp only at hSw); go_simp; (try with_reducible rfl); (try (first | (rw [if_pos (by omega)]; (try go_simp); (try with_reducible rfl)) | (rw [if_neg (by omega)]; (try go_simp); (try with_reducible rfl)))))
        try simp only [Act.put, zA, zB, zC]
        refine wpAnyR_takeQ (i := 4) (v := ?_) (some 37) rfl rfl (by kernel_rfl) (by kernel_rfl) (by kernel_rfl) (by kernel_rfl) (fun _ _ _ h => h) (Or.inl ⟨by rfl, ?_⟩) ?_
        rotate_left
        focus (intro wS hSw; (try dsimp only at hSw); go_simp; (try with_reducible rfl); (try (first | (rw [if_pos (by omega)]; (try go_simp); (try with_reducible rfl)) | (rw [if_neg (by omega)]; (try go_simp); (try with_reducible rfl)))))
        try simp only [Act.put, zA, zB, zC]
        refine wpAnyR_takeQ (i := 5) (v := ?_) (some 38) rfl rfl (by kernel_rfl) (by kernel_rfl) (by kernel_rfl) (by kernel_rfl) (fun _ _ _ h => h) (Or.inl ⟨by rfl, ?_⟩) ?_
        rotate_left
        focus (intro wS hSw; (try dsimp only at hSw); go_simp; (try with_reducible rfl); (try (first | (rw [if_pos (by omega)]; (try go_simp); (try with_reducible rfl)) | (rw [if_neg (by omega)]; (try go_simp); (try with_reducible rfl)))))
        try simp only [Act.put, zA, zB, zC]
        refine wpAnyR_takeQ (i := 6) (v := ?_) (some 39) rfl rfl (by kernel_rfl) (by kernel_rfl) (by kernel_rfl) (by kernel_rfl) (fun _ _ _ h => h) (Or.inl ⟨by rfl, ?_⟩) ?_
        rotate_left
        focus (intro wS hSw; (try dsimp only at hSw); go_simp; (try with_reducible rfl); (try (first | (rw [if_pos (by omega)]; (try go_simp); (try with_reducible rfl)) | (rw [if_neg (by omega)]; (try go_simp); (try with_reducible rfl)))))
        try simp only [Act.put, zA, zB, zC]
        refine wpAnyR_take (i := 7) (v := ?_) [8] (some 40) rfl rfl (by kernel_rfl) (by kernel_rfl) (by kernel_rfl) (by kernel_rfl) (by kernel_rfl) (by kernel_rfl) (by kernel_rfl) (fun _ _ _ h => h) (Or.inl ⟨by rfl, ?_⟩) hS ?_
        rotate_left
        focus (intro wS hSw; (try dsimp only at hSw); go_simp; (try with_reducible rfl); (try (first | (rw [if_pos (by omega)]; (try go_simp); (try with_reducible rfl)) | (rw [if_neg (by omega)]; (try go_simp); (try with_reducible rfl)))))
        try simp only [Act.put, zA, zB, zC]
        refine wpAnyR_takeQ (i := 8) (v := ?_) (some 41) rfl rfl (by kernel_rfl) (by kernel_rfl) (by kernel_rfl) (by kernel_rfl) (fun _ _ _ h => h) (Or.inl ⟨by rfl, ?_⟩) ?_
        rotate_left
        focus (intro wS hSw; (try dsimp only at hSw); go_simp; (try with_reducible rfl); (try (first | (rw [if_pos (by omega)]; (try go_simp); (try with_reducible rfl)) | (rw [if_neg (by omega)]; (try go_simp); (try with_reducible rfl)))))
        try simp only [Act.put, zA, zB, zC]
        try rw [HQ.out]
        refine wpAnyR_done (by kernel_rfl) ?_ _
        clear hS q0 p0
        go_wp2_with fail
        go_roundg (Y.length - (k + 1))
        case measure => rw [HGK.out]; omega
        case rel => exact ⟨k + 1, by omega, by omega, by go_num, by rw [HN.out]; exact HOWN.out.drew, HG.out.drew⟩
      · have HQ := Lib.hid (show (x.toList == y.toList) = false from beq_eq_false_iff_ne.2 (fun e => he (bytes_eq (by simpa [ByteArray.toList_eq] using e))))
        have HN := Lib.hid (show diffP X Y (k + 1) = diffP X Y k ++ [((k : Int), y)] from by rw [HNY.out k hlx hlt (by rw [hx, hy]; exact he), hy])
        clear he hx hy
        go_wp2_with fail
        refine wp_region_R [] (fun w' : World => w'.cell? ⟨b1, o1 + k, none⟩ = some (.string x) ∧ w'.cell? ⟨b2, o2 + k, none⟩ = some (.string y)) (by kernel_rfl) ?_
        refine wpAnyR_takeQ (i := 0) (v := ?_) (some 33) rfl rfl (by kernel_rfl) (by kernel_rfl) (by kernel_rfl) (by kernel_rfl) (fun _ _ _ h => h) (Or.inl ⟨by rfl, ?_⟩) ?_
        rotate_left
        focus (intro wS hSw; (try dsimp only at hSw); go_simp; (try with_reducible rfl); (try (first | (rw [if_pos (by omega)]; (try go_simp); (try with_reducible rfl)) | (rw [if_neg (by omega)]; (try go_simp); (try with_reducible rfl)))))
        try simp only [Act.put, zA, zB, zC]
        refine wpAnyR_takeQ (i := 1) (v := ?_) (some 34) rfl rfl (by kernel_rfl) (by kernel_rfl) (by kernel_rfl) (by kernel_rfl) (fun _ _ _ h => h) (Or.inl ⟨by rfl, ?_⟩) ?_
        rotate_left
        focus (intro wS hSw; (try dsimp only at hSw); go_simp; (try with_reducible rfl); (try (first | (rw [if_pos (by omega)]; (try go_simp); (try with_reducible rfl)) | (rw [if_neg (by omega)]; (try go_simp); (try with_reducible rfl)))))
        try simp only [Act.put, zA, zB, zC]
        refine wpAnyR_takeQ (i := 2) (v := ?_) (some 35) rfl rfl (by kernel_rfl) (by kernel_rfl) (by kernel_rfl) (by kernel_rfl) (fun _ _ _ h => h) (Or.inl ⟨by rfl, ?_⟩) ?_
        rotate_left
        focus (intro wS hSw; (try dsimp only at hSw); go_simp; (try with_reducible rfl); (try (first | (rw [if_pos (by omega)]; (try go_simp); (try with_reducible rfl)) | (rw [if_neg (by omega)]; (try go_simp); (try with_reducible rfl)))))
        try simp only [Act.put, zA, zB, zC]
        refine wpAnyR_take (i := 3) (v := ?_) [8] (some 36) rfl rfl (by kernel_rfl) (by kernel_rfl) (by kernel_rfl) (by kernel_rfl) (by kernel_rfl) (by kernel_rfl) (by kernel_rfl) (fun _ _ _ h => h) (Or.inl ⟨by rfl, ?_⟩) hS ?_
        rotate_left
        focus (intro wS hSw; (try dsimp only at hSw); go_simp; (try with_reducible rfl); (try (first | (rw [if_pos (by omega)]; (try go_simp); (try with_reducible rfl)) | (rw [if_neg (by omega)]; (try go_simp); (try with_reducible rfl)))))
        try simp only [Act.put, zA, zB, zC]
        refine wpAnyR_takeQ (i := 4) (v := ?_) (some 37) rfl rfl (by kernel_rfl) (by kernel_rfl) (by kernel_rfl) (by kernel_rfl) (fun _ _ _ h => h) (Or.inl ⟨by rfl, ?_⟩) ?_
        rotate_left
        focus (intro wS hSw; (try dsimp only at hSw); go_simp; (try with_reducible rfl); (try (first | (rw [if_pos (by omega)]; (try go_simp); (try with_reducible rfl)) | (rw [if_neg (by omega)]; (try go_simp); (try with_reducible rfl)))))
        try simp only [Act.put, zA, zB, zC]
        refine wpAnyR_takeQ (i := 5) (v := ?_) (some 38) rfl rfl (by kernel_rfl) (by kernel_rfl) (by kernel_rfl) (by kernel_rfl) (fun _ _ _ h => h) (Or.inl ⟨by rfl, ?_⟩) ?_
        rotate_left
        focus (intro wS hSw; (try dsimp only at hSw); go_simp; (try with_reducible rfl); (try (first | (rw [if_pos (by omega)]; (try go_simp); (try with_reducible rfl)) | (rw [if_neg (by omega)]; (try go_simp); (try with_reducible rfl)))))
        try simp only [Act.put, zA, zB, zC]
        refine wpAnyR_takeQ (i := 6) (v := ?_) (some 39) rfl rfl (by kernel_rfl) (by kernel_rfl) (by kernel_rfl) (by kernel_rfl) (fun _ _ _ h => h) (Or.inl ⟨by rfl, ?_⟩) ?_
        rotate_left
        focus (intro wS hSw; (try dsimp only at hSw); go_simp; (try with_reducible rfl); (try (first | (rw [if_pos (by omega)]; (try go_simp); (try with_reducible rfl)) | (rw [if_neg (by omega)]; (try go_simp); (try with_reducible rfl)))))
        try simp only [Act.put, zA, zB, zC]
        refine wpAnyR_take (i := 7) (v := ?_) [8] (some 40) rfl rfl (by kernel_rfl) (by kernel_rfl) (by kernel_rfl) (by kernel_rfl) (by kernel_rfl) (by kernel_rfl) (by kernel_rfl) (fun _ _ _ h => h) (Or.inl ⟨by rfl, ?_⟩) hS ?_
        rotate_left
        focus (intro wS hSw; (try dsimp only at hSw); go_simp; (try with_reducible rfl); (try (first | (rw [if_pos (by omega)]; (try go_simp); (try with_reducible rfl)) | (rw [if_neg (by omega)]; (try go_simp); (try with_reducible rfl)))))
        try simp only [Act.put, zA, zB, zC]
        refine wpAnyR_takeQ (i := 8) (v := ?_) (some 41) rfl rfl (by kernel_rfl) (by kernel_rfl) (by kernel_rfl) (by kernel_rfl) (fun _ _ _ h => h) (Or.inl ⟨by rfl, ?_⟩) ?_
        rotate_left
        focus (intro wS hSw; (try dsimp only at hSw); go_simp; (try with_reducible rfl); (try (first | (rw [if_pos (by omega)]; (try go_simp); (try with_reducible rfl)) | (rw [if_neg (by omega)]; (try go_simp); (try with_reducible rfl)))))
        try simp only [Act.put, zA, zB, zC]
        try rw [HQ.out]
        refine wpAnyR_done (by kernel_rfl) ?_ _
        clear hS
        obtain ⟨wz, hwz⟩ : ∃ wz, wz = wr.drew := ⟨_, rfl⟩
        have HOZ := Lib.hid (show OwnL wz w4.heap.size 98 2 _ ((diffP X Y k).map wrC) from by rw [hwz]; exact HOWN.out.drew)
        have HGZ := Lib.hid (show Grew w4 wz from by rw [hwz]; exact HG.out.drew)
        have p0 : wz.cell? ⟨b2, o2 + k, none⟩ = some (.string y) := by rw [hwz]; exact p0
        have hb2r : b2 < wz.heap.size := by rw [hwz]; exact hb2r
        have hgz : w4.heap.size ≤ wz.heap.size := by rw [hwz]; exact hgs
        rw [← hwz]
        clear hwz q0 hgs hb1r
        go_wp2_with (at_builtin; refine wpList_push rfl _ _ 57 rfl w4.heap.size 98 2 24 _ Tryz.underlying57 info_write rfl (by decide) wz _ ((diffP X Y k).map wrC) (wrC ((k : Int), y)) (by rfl) rfl rfl HOZ.out (by first | rfl | (simp; done)) rfl rfl (by rw [List.length_map]; omega) (by rw [List.length_map]; omega) hgz ?_; intro v' w5 hown5 hgr hbk hsz)
        have HO5 := Lib.hid hown5
        have HG5 := Lib.hid (hgr _ HGZ.out (Nat.le_refl _))
        clear hown5 hgr hbk p0
        go_roundg (Y.length - (k + 1))
        case measure => rw [HGK.out]; omega
        case rel => exact ⟨k + 1, by omega, by omega, by go_num, by rw [HN.out, List.map_append]; exact HO5.out, HG5.out⟩
    · have hkn : k = Y.length := by omega
      subst hkn
      have HO := Lib.hid (hown.lower2 (b' := w.heap.size) (by have := HG4.out.size; omega))
      clear hown hg
      go_wp2_with fail
      go_ret
      exact ⟨_, rfl, by rw [HD.out]; exact HO.out, HG4.out.trans HG.out⟩
end
end Go.Proofs.YtnlaogneceanoaaGreat
namespace Go.Proofs.YtnlaogneceanoaaGreat
set_option linter.unusedVariables false
set_option linter.unusedSimpArgs false
set_option linter.unusedSectionVars false
open Go.RowKit
attribute [local go_sem ↓] Go.wp_at_zero Go.wp_at_succ
theorem diffT_on (T U : Tab) (h : (secT T).length = (secT U).length ∧ T.tracks = U.tracks) : diffT T U = diffP (secT T) (secT U) (secT T).length := by
  unfold diffT
  rw [if_pos h]
theorem diffT_off (T U : Tab) (h : ¬ ((secT T).length = (secT U).length ∧ T.tracks = U.tracks)) : diffT T U = [] := by
  unfold diffT
  rw [if_neg h]
section
variable (A A2 : Option Addr) (c c2 : Nat) (xs ys : List LabE) (T U : Tab) (w : World)
set_option maxRecDepth 100000 in
set_option maxHeartbeats 8000000 in
theorem rchanges_tab (h : TabAt w A c xs T) (hs : SmallT T) (h2 : TabAt w A2 c2 ys U) (hs2 : SmallT U) :
    Calls Tryz.prog 33 #[.agg #[.string T.name, .int .i64 T.tracks, .slice A T.labels.length c], .agg #[.string U.name, .int .i64 U.tracks, .slice A2 U.labels.length c2]] w fun e w' => ∃ v, e = .returned v ∧ OwnL w' w.heap.size 98 2 v ((diffT T U).map wrC) ∧ Grew w w' := by
  have hg0 := ((Grew.refl w).alloc (.cells #[.string T.name, .int .i64 T.tracks, .slice A T.labels.length c] 24)).alloc (.cells #[.string U.name, .int .i64 U.tracks, .slice A2 U.labels.length c2] 24)
  have hb0 := (Blk.new w 24 #[.string T.name, .int .i64 T.tracks, .slice A T.labels.length c] rfl).alloc (.cells #[.string U.name, .int .i64 U.tracks, .slice A2 U.labels.length c2] 24)
  have hb1 := Blk.new (w.alloc (.cells #[.string T.name, .int .i64 T.tracks, .slice A T.labels.length c] 24)) 24 #[.string U.name, .int .i64 U.tracks, .slice A2 U.labels.length c2] (n := w.heap.size + 1) (by simp)
  have HB0 := Lib.hid hb0
  have HB1 := Lib.hid hb1
  have HT := Lib.hid h
  have HU := Lib.hid h2
  have HS := Lib.hid hs
  have HS2 := Lib.hid hs2
  have HG0 := Lib.hid hg0
  have hst := sec_short T hs.len
  have hsu := sec_short U hs2.len
  have HSG := Lib.hid (show ∀ w1 : World, Grew ((w.alloc (.cells #[.string T.name, .int .i64 T.tracks, .slice A T.labels.length c] 24)).alloc (.cells #[.string U.name, .int .i64 U.tracks, .slice A2 U.labels.length c2] 24)) w1 → (fun w' : World => w'.cell? ⟨w.heap.size, 0, none⟩ = some (.string T.name) ∧ w'.cell? ⟨w.heap.size, 1, none⟩ = some (.int .i64 T.tracks) ∧ w'.cell? ⟨w.heap.size, 2, none⟩ = some (.slice A T.labels.length c) ∧ w'.cell? ⟨w.heap.size + 1, 0, none⟩ = some (.string U.name) ∧ w'.cell? ⟨w.heap.size + 1, 1, none⟩ = some (.int .i64 U.tracks) ∧ w'.cell? ⟨w.heap.size + 1, 2, none⟩ = some (.slice A2 U.labels.length c2)) w1 from fun w1 g => ⟨(hb0.grew g).cell 0, (hb0.grew g).cell 1, (hb0.grew g).cell 2, (hb1.grew g).cell 0, (hb1.grew g).cell 1, (hb1.grew g).cell 2⟩)
  have hS := HSG.out _ (Grew.refl ((w.alloc (.cells #[.string T.name, .int .i64 T.tracks, .slice A T.labels.length c] 24)).alloc (.cells #[.string U.name, .int .i64 U.tracks, .slice A2 U.labels.length c2] 24))).drew
  have HGD := Lib.hid ((Grew.refl ((w.alloc (.cells #[.string T.name, .int .i64 T.tracks, .slice A T.labels.length c] 24)).alloc (.cells #[.string U.name, .int .i64 U.tracks, .slice A2 U.labels.length c2] 24))).drew)
  clear h hs h2 hs2 hb0 hb1 hg0
  go_enter Tryz.func33, Tryz.ntmps33
  go_wp2_with fail
  obtain ⟨w0, hw0⟩ : ∃ w0, w0 = (w.alloc (.cells #[.string T.name, .int .i64 T.tracks, .slice A T.labels.length c] 24)).alloc (.cells #[.string U.name, .int .i64 U.tracks, .slice A2 U.labels.length c2] 24) := ⟨_, rfl⟩
  have hw0s : w0.heap.size = w.heap.size + 2 := by rw [hw0]; simp
  rw [← hw0] at HB0 HB1 HG0 HSG HGD hS ⊢
  clear hw0
  refine wp_region_R [] (fun w' : World => w'.cell? ⟨w.heap.size, 0, none⟩ = some (.string T.name) ∧ w'.cell? ⟨w.heap.size, 1, none⟩ = some (.int .i64 T.tracks) ∧ w'.cell? ⟨w.heap.size, 2, none⟩ = some (.slice A T.labels.length c) ∧ w'.cell? ⟨w.heap.size + 1, 0, none⟩ = some (.string U.name) ∧ w'.cell? ⟨w.heap.size + 1, 1, none⟩ = some (.int .i64 U.tracks) ∧ w'.cell? ⟨w.heap.size + 1, 2, none⟩ = some (.slice A2 U.labels.length c2)) (by kernel_rfl) ?_
  refine wpAnyR_take (i := 0) (v := ?_) [1, 3, 4, 5] (some 9) rfl rfl (by kernel_rfl) (by kernel_rfl) (by kernel_rfl) (by kernel_rfl) (by kernel_rfl) (by kernel_rfl) (by kernel_rfl) (fun _ _ _ h => h) (Or.inl ⟨by rfl, ?_⟩) hS ?_
  rotate_left
  focus (intro wS hSw; (try dsimp only at hSw); go_simp; (try with_reducible rfl); (try (first | (rw [if_pos (by omega)]; (try go_simp); (try with_reducible rfl)) | (rw [if_neg (by omega)]; (try go_simp); (try with_reducible rfl)))))
  try simp only [Act.put, zA, zB, zC]
  refine wpAnyR_take (i := 2) (v := ?_) [3, 4, 5] (some 11) rfl rfl (by kernel_rfl) (by kernel_rfl) (by kernel_rfl) (by kernel_rfl) (by kernel_rfl) (by kernel_rfl) (by kernel_rfl) (fun _ _ _ h => h) (Or.inl ⟨by rfl, ?_⟩) hS ?_
  rotate_left
  focus (intro wS hSw; (try dsimp only at hSw); go_simp; (try with_reducible rfl); (try (first | (rw [if_pos (by omega)]; (try go_simp); (try with_reducible rfl)) | (rw [if_neg (by omega)]; (try go_simp); (try with_reducible rfl)))))
  try simp only [Act.put, zA, zB, zC]
  refine wpAnyR_n1 (i := 1) rfl (by kernel_rfl) ?_
  intro K' hK
  rw [if_pos (by rfl)]
  simp only [List.getElem_toArray, List.getElem_cons_succ, List.getElem_cons_zero]
  go_wp2_with fail
  refine (rsectors_tab A c xs T _ (HT.out.hold (HG0.out.trans HGD.out)) HS.out).mono ?_
  rintro e w3 ⟨v3, rfl, ho3, g3⟩
  have G3 := HGD.out.trans g3
  obtain ⟨A3, c3, rfl, hl3, hc3, hr3⟩ := ho3.listAt
  go_wp2_with fail
  refine hK.out _ _ (.inr (fun _ => HSG.out _ G3)) ?_
  clear hK hS
  have hS := HSG.out _ G3
  refine wpAnyR_n1 (i := 3) rfl (by kernel_rfl) ?_
  intro K' hK
  rw [if_pos (by rfl)]
  simp only [List.getElem_toArray, List.getElem_cons_succ, List.getElem_cons_zero]
  go_wp2_with fail
  refine (rsectors_tab A2 c2 ys U _ (HU.out.hold (HG0.out.trans G3)) HS2.out).mono ?_
  rintro e w4 ⟨v4, rfl, ho4, g4⟩
  have G4 := G3.trans g4
  obtain ⟨A4, c4, rfl, hl4, hc4, hr4⟩ := ho4.listAt
  go_wp2_with fail
  refine hK.out _ _ (.inr (fun _ => HSG.out _ G4)) ?_
  clear hK hS
  have hS := HSG.out _ G4
  refine wpAnyR_takeQ (i := 4) (v := ?_) (some 5) rfl rfl (by kernel_rfl) (by kernel_rfl) (by kernel_rfl) (by kernel_rfl) (fun _ _ _ h => h) (Or.inl ⟨by rfl, ?_⟩) ?_
  rotate_left
  focus (intro wS hSw; (try dsimp only at hSw); go_simp; (try with_reducible rfl); (try (first | (rw [if_pos (by omega)]; (try go_simp); (try with_reducible rfl)) | (rw [if_neg (by omega)]; (try go_simp); (try with_reducible rfl)))))
  try simp only [Act.put, zA, zB, zC]
  refine wpAnyR_takeQ (i := 5) (v := ?_) (some 6) rfl rfl (by kernel_rfl) (by kernel_rfl) (by kernel_rfl) (by kernel_rfl) (fun _ _ _ h => h) (Or.inl ⟨by rfl, ?_⟩) ?_
  rotate_left
  focus (intro wS hSw; (try dsimp only at hSw); go_simp; (try with_reducible rfl); (try (first | (rw [if_pos (by omega)]; (try go_simp); (try with_reducible rfl)) | (rw [if_neg (by omega)]; (try go_simp); (try with_reducible rfl)))))
  try simp only [Act.put, zA, zB, zC]
  refine wpAnyR_done (by kernel_rfl) ?_ _
  have HB2 := Lib.hid (HB0.out.grew G4)
  have HB3 := Lib.hid (HB1.out.grew G4)
  have HG4 := Lib.hid (HG0.out.trans G4)
  have HL3 := Lib.hid (hr3.keep (Nat.le_refl _) g4)
  have HL4 := Lib.hid hr4
  have hz3 : w3.heap.size ≤ w4.heap.size := g4.size
  have x1 := HB2.out.cell 1
  have u1 := HB3.out.cell 1
  have hbl := HB2.out.lt
  have hcl := HB3.out.lt
  clear hS ho3 ho4 hr3 hr4 g3 g4 G3 G4 hl3 hl4 hc3 hc4 HSG HGD
  have hn3 : (((secT T).map strC).length) = (secT T).length := List.length_map ..
  by_cases hc : (secT T).length = (secT U).length ∧ T.tracks = U.tracks
  rotate_left
  · have HD := Lib.hid (diffT_off T U hc)
    have HCN := Lib.hid hc
    clear hc
    go_wp2_with fail
    have HO0 := Lib.hid (OwnL.empty w4 w4.heap.size 98 2 (Nat.le_refl _) rfl)
    have HGX := Lib.hid ((Grew.refl w4).alloc (.cells #[] 98))
    have HX1 := Lib.hid x1
    have HU1 := Lib.hid u1
    have HZ1 := Lib.hid hbl
    have HZ2 := Lib.hid hcl
    clear x1 u1 hbl hcl
    go_loopg [7, 8] 0 (fun gk ov i wr => gk = 0 ∧ i = .int .i64 0 ∧ OwnL wr w4.heap.size 98 2 ov (([] : List (Int × ByteArray)).map wrC) ∧ Grew w4 wr)
    case atStart => exact ⟨rfl, rfl, HO0.out, HGX.out⟩
    case round =>
      obtain ⟨hgk, rfl, hown, hg⟩ := hrel
      have HOW := Lib.hid (hown.lower2 (b' := w.heap.size) (by have := HG4.out.size; omega))
      have HGG := Lib.hid hg
      have hbl := (HB2.out.grew hg).lt
      have hcl := (HB3.out.grew hg).lt
      have x1 := (HB2.out.grew hg).cell 1
      have u1 := (HB3.out.grew hg).cell 1
      clear hown hg hgk
      by_cases h0 : 0 < (secT T).length
      · by_cases h1 : (secT T).length = (secT U).length
        · have hb1 : (((secT T).length : Int) == ((secT U).length : Int)) = true := by rw [beq_iff_eq]; omega
          have hb2 : (T.tracks == U.tracks) = false := by rw [beq_eq_false_iff_ne]; exact fun e => HCN.out ⟨h1, e⟩
          clear h1
          go_wp2_with fail
          go_ret
          exact ⟨_, rfl, by rw [HD.out]; exact HOW.out, HG4.out.trans HGG.out⟩
        · have hb1 : (((secT T).length : Int) == ((secT U).length : Int)) = false := by rw [beq_eq_false_iff_ne]; omega
          clear h1
          go_wp2_with fail
          go_ret
          exact ⟨_, rfl, by rw [HD.out]; exact HOW.out, HG4.out.trans HGG.out⟩
      · go_wp2_with fail
        go_ret
        exact ⟨_, rfl, by rw [HD.out]; exact HOW.out, HG4.out.trans HGG.out⟩
  have HD := Lib.hid (diffT_on T U hc)
  obtain ⟨hsl, ht⟩ := hc
  have hd : (T.tracks == U.tracks) = true := by rw [beq_iff_eq]; exact ht
  have hbb : (((secT T).length : Int) == ((secT U).length : Int)) = true := by rw [beq_iff_eq]; omega
  have HNX := Lib.hid (fun k (h1 : k < (secT T).length) (h2 : k < (secT U).length) => diffP_eq (secT T) (secT U) k h1 h2)
  have HNY := Lib.hid (fun k (h1 : k < (secT T).length) (h2 : k < (secT U).length) => diffP_ne (secT T) (secT U) k h1 h2)
  have HHD := Lib.hid hd
  have HBB := Lib.hid hbb
  have HSL := Lib.hid hsl
  clear ht hd hbb hsl
  generalize secT T = X at *
  generalize secT U = Y at *
  go_wp2_with fail
  have HO0 := Lib.hid (OwnL.empty w4 w4.heap.size 98 2 (Nat.le_refl _) rfl)
  have HGX := Lib.hid ((Grew.refl w4).alloc (.cells #[] 98))
  clear x1 u1 hbl hcl
  go_loopg [7, 8] X.length (fun gk ov i wr => ∃ k : Nat, k ≤ X.length ∧ gk = X.length - k ∧ i = .int .i64 k ∧ OwnL wr w4.heap.size 98 2 ov ((diffP X Y k).map wrC) ∧ Grew w4 wr)
  case atStart => exact ⟨0, by omega, by omega, rfl, HO0.out, HGX.out⟩
  case round =>
    obtain ⟨k, hk, hgk, rfl, hown, hg⟩ := hrel
    have HGK := Lib.hid hgk
    have HG := Lib.hid hg
    have hgs := hg.size
    have hbb := HBB.out
    have hd := HHD.out
    have hbl := (HB2.out.grew hg).lt
    have hcl := (HB3.out.grew hg).lt
    have x1 := (HB2.out.grew hg).cell 1
    have u1 := (HB3.out.grew hg).cell 1
    clear hgk
    by_cases hlx : k < X.length
    · have hlt : k < Y.length := by have := HSL.out; omega
      obtain ⟨b1, o1, rfl, hb1, hc1⟩ := HL3.out (by rw [List.length_map]; omega)
      obtain ⟨b2, o2, rfl, hb2, hc2⟩ := HL4.out (by rw [List.length_map]; omega)
      obtain ⟨x, hx⟩ : ∃ x, X[k] = x := ⟨_, rfl⟩
      obtain ⟨y, hy⟩ : ∃ y, Y[k] = y := ⟨_, rfl⟩
      have hb1 : b1 < w4.heap.size := by omega
      have q0 : wr.cell? ⟨b1, o1 + k, none⟩ = some (.string x) := by
        rw [hg.cellEq _ _ hb1]
        have := hc1 k (strC x) (by rw [List.getElem?_map, List.getElem?_eq_getElem hlx, hx]; rfl) 0 _ rfl
        simpa using this
      have p0 : wr.cell? ⟨b2, o2 + k, none⟩ = some (.string y) := by
        rw [hg.cellEq _ _ hb2]
        have := hc2 k (strC y) (by rw [List.getElem?_map, List.getElem?_eq_getElem hlt, hy]; rfl) 0 _ rfl
        simpa using this
      have hb1r := Nat.lt_of_lt_of_le hb1 hgs
      have hb2r := Nat.lt_of_lt_of_le hb2 hgs
      have hS : (fun w' : World => w'.cell? ⟨b1, o1 + k, none⟩ = some (.string x) ∧ w'.cell? ⟨b2, o2 + k, none⟩ = some (.string y)) wr.drew := ⟨q0, p0⟩
      have HOWN := Lib.hid hown
      have hdl := diffP_len X Y k
      clear hc1 hc2 hg hown
      by_cases he : x = y
      · have HQ := Lib.hid (show (x.toList == y.toList) = true from by rw [he, beq_iff_eq])
        have HN := Lib.hid (show diffP X Y (k + 1) = diffP X Y k from HNX.out k hlx hlt (by rw [hx, hy, he]))
        clear he hx hy
        go_wp2_with fail
        refine wp_region_R [] (fun w' : World => w'.cell? ⟨b1, o1 + k, none⟩ = some (.string x) ∧ w'.cell? ⟨b2, o2 + k, none⟩ = some (.string y)) (by kernel_rfl) ?_
        refine wpAnyR_takeQ (i := 0) (v := ?_) (some 34) rfl rfl (by kernel_rfl) (by kernel_rfl) (by kernel_rfl) (by kernel_rfl) (fun _ _ _ h => h) (Or.inl ⟨by rfl, ?_⟩) ?_
        rotate_left
        focus (intro wS hSw; (try dsimp only at hSw); go_simp; (try with_reducible rfl); (try (first | (rw [if_pos (by omega)]; (try go_simp); (try with_reducible rfl)) | (rw [if_neg (by omega)]; (try go_simp); (try with_reducible rfl)))))
        try simp only [Act.put, zA, zB, zC]
        refine wpAnyR_takeQ (i := 1) (v := ?_) (some 35) rfl rfl (by kernel_rfl) (by kernel_rfl) (by kernel_rfl) (by kernel_rfl) (fun _ _ _ h => h) (Or.inl ⟨by rfl, ?_⟩) ?_
        rotate_left
        focus (intro wS hSw; (try dsimp only at hSw); go_simp; (try with_reducible rfl); (try (first | (rw [if_pos (by omega)]; (try go_simp); (try with_reducible rfl)) | (rw [if_neg (by omega)]; (try go_simp); (try with_reducible rfl)))))
        try simp only [Act.put, zA, zB, zC]
        refine wpAnyR_takeQ (i := 2) (v := ?_) (some 36) rfl rfl (by kernel_rfl) (by kernel_rfl) (by kernel_rfl) (by kernel_rfl) (fun _ _ _ h => h) (Or.inl ⟨by rfl, ?_⟩) ?_
        rotate_left
        focus (intro wS hSw; (try dsimp only at hSw); go_simp; (try with_reducible rfl); (try (first | (rw [if_pos (by omega)]; (try go_simp); (try with_reducible rfl)) | (rw [if_neg (by omega)]; (try go_simp); (try with_reducible rfl)))))
        try simp only [Act.put, zA, zB, zC]
        refine wpAnyR_take (i := 3) (v := ?_) [8] (some 37) rfl rfl (by kernel_rfl) (by kernel_rfl) (by kernel_rfl) (by kernel_rfl) (by kernel_rfl) (by kernel_rfl) (by kernel_rfl) (fun _ _ _ h => h) (Or.inl ⟨by rfl, ?_⟩) hS ?_
        rotate_left
        focus (intro wS hSw; (try dsimp only at hSw); go_simp; (try with_reducible rfl); (try (first | (rw [if_pos (by omega)]; (try go_simp); (try with_reducible rfl)) | (rw [if_neg (by omega)]; (try go_simp); (try with_reducible rfl)))))
        try simp only [Act.put, zA, zB, zC]
        refine wpAnyR_takeQ (i := 4) (v := ?_) (some 38) rfl rfl (by kernel_rfl) (by kernel_rfl) (by kernel_rfl) (by kernel_rfl) (fun _ _ _ h => h) (Or.inl ⟨by rfl, ?_⟩) ?_
        rotate_left
        focus (intro wS hSw; (try dsimp only at hSw); go_simp; (try with_reducible rfl); (try (first | (rw [if_pos (by omega)]; (try go_simp); (try with_reducible rfl)) | (rw [if_neg (by omega)]; (try go_simp); (try with_reducible rfl)))))
        try simp only [Act.put, zA, zB, zC]
        refine wpAnyR_takeQ (i := 5) (v := ?_) (some 39) rfl rfl (by kernel_rfl) (by kernel_rfl) (by kernel_rfl) (by kernel_rfl) (fun _ _ _ h => h) (Or.inl ⟨by rfl, ?_⟩) ?_
        rotate_left
        focus (intro wS hSw; (try dsimp only at hSw); go_simp; (try with_reducible rfl); (try (first | (rw [if_pos (by omega)]; (try go_simp); (try with_reducible rfl)) | (rw [if_neg (by omega)]; (try go_simp); (try with_reducible rfl)))))
        try simp only [Act.put, zA, zB, zC]
        refine wpAnyR_takeQ (i := 6) (v := ?_) (some 40) rfl rfl (by kernel_rfl) (by kernel_rfl) (by kernel_rfl) (by kernel_rfl) (fun _ _ _ h => h) (Or.inl ⟨by rfl, ?_⟩) ?_
        rotate_left
        focus (intro wS hSw; (try dsimp only at hSw); go_simp; (try with_reducible rfl); (try (first | (rw [if_pos (by omega)]; (try go_simp); (try with_reducible rfl)) | (rw [if_neg (by omega)]; (try go_simp); (try with_reducible rfl)))))
        try simp only [Act.put, zA, zB, zC]
        refine wpAnyR_take (i := 7) (v := ?_) [8] (some 41) rfl rfl (by kernel_rfl) (by kernel_rfl) (by kernel_rfl) (by kernel_rfl) (by kernel_rfl) (by kernel_rfl) (by kernel_rfl) (fun _ _ _ h => h) (Or.inl ⟨by rfl, ?_⟩) hS ?_
        rotate_left
        focus (intro wS hSw; (try dsimp only at hSw); go_simp; (try with_reducible rfl); (try (first | (rw [if_pos (by omega)]; (try go_simp); (try with_reducible rfl)) | (rw [if_neg (by omega)]; (try go_simp); (try with_reducible rfl)))))
        try simp only [Act.put, zA, zB, zC]
        refine wpAnyR_takeQ (i := 8) (v := ?_) (some 42) rfl rfl (by kernel_rfl) (by kernel_rfl) (by kernel_rfl) (by kernel_rfl) (fun _ _ _ h => h) (Or.inl ⟨by rfl, ?_⟩) ?_
        rotate_left
        focus (intro wS hSw; (try dsimp only at hSw); go_simp; (try with_reducible rfl); (try (first | (rw [if_pos (by omega)]; (try go_simp); (try with_reducible rfl)) | (rw [if_neg (by omega)]; (try go_simp); (try with_reducible rfl)))))
        try simp only [Act.put, zA, zB, zC]
        try rw [HQ.out]
        refine wpAnyR_done (by kernel_rfl) ?_ _
        clear hS q0 p0
        go_wp2_with fail
        go_roundg (X.length - (k + 1))
        case measure => rw [HGK.out]; omega
        case rel => exact ⟨k + 1, by omega, by omega, by go_num, by rw [HN.out]; exact HOWN.out.drew, HG.out.drew⟩
      · have HQ := Lib.hid (show (x.toList == y.toList) = false from beq_eq_false_iff_ne.2 (fun e => he (bytes_eq (by simpa [ByteArray.toList_eq] using e))))
        have HN := Lib.hid (show diffP X Y (k + 1) = diffP X Y k ++ [((k : Int), y)] from by rw [HNY.out k hlx hlt (by rw [hx, hy]; exact he), hy])
        clear he hx hy
        go_wp2_with fail
        refine wp_region_R [] (fun w' : World => w'.cell? ⟨b1, o1 + k, none⟩ = some (.string x) ∧ w'.cell? ⟨b2, o2 + k, none⟩ = some (.string y)) (by kernel_rfl) ?_
        refine wpAnyR_takeQ (i := 0) (v := ?_) (some 34) rfl rfl (by kernel_rfl) (by kernel_rfl) (by kernel_rfl) (by kernel_rfl) (fun _ _ _ h => h) (Or.inl ⟨by rfl, ?_⟩) ?_
        rotate_left
        focus (intro wS hSw; (try dsimp only at hSw); go_simp; (try with_reducible rfl); (try (first | (rw [if_pos (by omega)]; (try go_simp); (try with_reducible rfl)) | (rw [if_neg (by omega)]; (try go_simp); (try with_reducible rfl)))))
        try simp only [Act.put, zA, zB, zC]
        refine wpAnyR_takeQ (i := 1) (v := ?_) (some 35) rfl rfl (by kernel_rfl) (by kernel_rfl) (by kernel_rfl) (by kernel_rfl) (fun _ _ _ h => h) (Or.inl ⟨by rfl, ?_⟩) ?_
        rotate_left
        focus (intro wS hSw; (try dsimp only at hSw); go_simp; (try with_reducible rfl); (try (first | (rw [if_pos (by omega)]; (try go_simp); (try with_reducible rfl)) | (rw [if_neg (by omega)]; (try go_simp); (try with_reducible rfl)))))
        try simp only [Act.put, zA, zB, zC]
        refine wpAnyR_takeQ (i := 2) (v := ?_) (some 36) rfl rfl (by kernel_rfl) (by kernel_rfl) (by kernel_rfl) (by kernel_rfl) (fun _ _ _ h => h) (Or.inl ⟨by rfl, ?_⟩) ?_
        rotate_left
        focus (intro wS hSw; (try dsimp only at hSw); go_simp; (try with_reducible rfl); (try (first | (rw [if_pos (by omega)]; (try go_simp); (try with_reducible rfl)) | (rw [if_neg (by omega)]; (try go_simp); (try with_reducible rfl)))))
        try simp only [Act.put, zA, zB, zC]
        refine wpAnyR_take (i := 3) (v := ?_) [8] (some 37) rfl rfl (by kernel_rfl) (by kernel_rfl) (by kernel_rfl) (by kernel_rfl) (by kernel_rfl) (by kernel_rfl) (by kernel_rfl) (fun _ _ _ h => h) (Or.inl ⟨by rfl, ?_⟩) hS ?_
        rotate_left
        focus (intro wS hSw; (try dsimp only at hSw); go_simp; (try with_reducible rfl); (try (first | (rw [if_pos (by omega)]; (try go_simp); (try with_reducible rfl)) | (rw [if_neg (by omega)]; (try go_simp); (try with_reducible rfl)))))
        try simp only [Act.put, zA, zB, zC]
        refine wpAnyR_takeQ (i := 4) (v := ?_) (some 38) rfl rfl (by kernel_rfl) (by kernel_rfl) (by kernel_rfl) (by kernel_rfl) (fun _ _ _ h => h) (Or.inl ⟨by rfl, ?_⟩) ?_
        rotate_left
        focus (intro wS hSw; (try dsimp only at hSw); go_simp; (try with_reducible rfl); (try (first | (rw [if_pos (by omega)]; (try go_simp); (try with_reducible rfl)) | (rw [if_neg (by omega)]; (try go_simp); (try with_reducible rfl)))))
        try simp only [Act.put, zA, zB, zC]
        refine wpAnyR_takeQ (i := 5) (v := ?_) (some 39) rfl rfl (by kernel_rfl) (by kernel_rfl) (by kernel_rfl) (by kernel_rfl) (fun _ _ _ h => h) (Or.inl ⟨by rfl, ?_⟩) ?_
        rotate_left
        focus (intro wS hSw; (try dsimp only at hSw); go_simp; (try with_reducible rfl); (try (first | (rw [if_pos (by omega)]; (try go_simp); (try with_reducible rfl)) | (rw [if_neg (by omega)]; (try go_simp); (try with_reducible rfl)))))
        try simp only [Act.put, zA, zB, zC]
        refine wpAnyR_takeQ (i := 6) (v := ?_) (some 40) rfl rfl (by kernel_rfl) (by kernel_rfl) (by kernel_rfl) (by kernel_rfl) (fun _ _ _ h => h) (Or.inl ⟨by rfl, ?_⟩) ?_
        rotate_left
        focus (intro wS hSw; (try dsimp only at hSw); go_simp; (try with_reducible rfl); (try (first | (rw [if_pos (by omega)]; (try go_simp); (try with_reducible rfl)) | (rw [if_neg (by omega)]; (try go_simp); (try with_reducible rfl)))))
        try simp only [Act.put, zA, zB, zC]
        refine wpAnyR_take (i := 7) (v := ?_) [8] (some 41) rfl rfl (by kernel_rfl) (by kernel_rfl) (by kernel_rfl) (by kernel_rfl) (by kernel_rfl) (by kernel_rfl) (by kernel_rfl) (fun _ _ _ h => h) (Or.inl ⟨by rfl, ?_⟩) hS ?_
        rotate_left
        focus (intro wS hSw; (try dsimp only at hSw); go_simp; (try with_reducible rfl); (try (first | (rw [if_pos (by omega)]; (try go_simp); (try with_reducible rfl)) | (rw [if_neg (by omega)]; (try go_simp); (try with_reducible rfl)))))
        try simp only [Act.put, zA, zB, zC]
        refine wpAnyR_takeQ (i := 8) (v := ?_) (some 42) rfl rfl (by kernel_rfl) (by kernel_rfl) (by kernel_rfl) (by kernel_rfl) (fun _ _ _ h => h) (Or.inl ⟨by rfl, ?_⟩) ?_
        rotate_left
        focus (intro wS hSw; (try dsimp only at hSw); go_simp; (try with_reducible rfl); (try (first | (rw [if_pos (by omega)]; (try go_simp); (try with_reducible rfl)) | (rw [if_neg (by omega)]; (try go_simp); (try with_reducible rfl)))))
        try simp only [Act.put, zA, zB, zC]
        try rw [HQ.out]
        refine wpAnyR_done (by kernel_rfl) ?_ _
        clear hS
        obtain ⟨wz, hwz⟩ : ∃ wz, wz = wr.drew := ⟨_, rfl⟩
        have HOZ := Lib.hid (show OwnL wz w4.heap.size 98 2 _ ((diffP X Y k).map wrC) from by rw [hwz]; exact HOWN.out.drew)
        have HGZ := Lib.hid (show Grew w4 wz from by rw [hwz]; exact HG.out.drew)
        have p0 : wz.cell? ⟨b2, o2 + k, none⟩ = some (.string y) := by rw [hwz]; exact p0
        have hb2r : b2 < wz.heap.size := by rw [hwz]; exact hb2r
        have hgz : w4.heap.size ≤ wz.heap.size := by rw [hwz]; exact hgs
        rw [← hwz]
        clear hwz q0 hgs hb1r
        go_wp2_with (at_builtin; refine wpList_push rfl _ _ 57 rfl w4.heap.size 98 2 24 _ Tryz.underlying57 info_write rfl (by decide) wz _ ((diffP X Y k).map wrC) (wrC ((k : Int), y)) (by rfl) rfl rfl HOZ.out (by first | rfl | (simp; done)) rfl rfl (by rw [List.length_map]; omega) (by rw [List.length_map]; omega) hgz ?_; intro v' w5 hown5 hgr hbk hsz)
        have HO5 := Lib.hid hown5
        have HG5 := Lib.hid (hgr _ HGZ.out (Nat.le_refl _))
        clear hown5 hgr hbk p0
        go_roundg (X.length - (k + 1))
        case measure => rw [HGK.out]; omega
        case rel => exact ⟨k + 1, by omega, by omega, by go_num, by rw [HN.out, List.map_append]; exact HO5.out, HG5.out⟩
    · have hkn : k = X.length := by omega
      subst hkn
      have HO := Lib.hid (hown.lower2 (b' := w.heap.size) (by have := HG4.out.size; omega))
      clear hown hg
      go_wp2_with fail
      go_ret
      exact ⟨_, rfl, by rw [HD.out]; exact HO.out, HG4.out.trans HG.out⟩
end
end Go.Proofs.YtnlaogneceanoaaGreat
namespace Go.Proofs.YtnlaogneceanoaaGreat
set_option linter.unusedVariables false
set_option linter.unusedSimpArgs false
set_option linter.unusedSectionVars false
open Go.RowKit
attribute [local go_sem ↓] Go.wp_at_zero Go.wp_at_succ
instance : DecidableEq Lab := fun a b => decidable_of_iff (eqL a b = true) (eqL_iff a b)
def sameT (T U : Tab) : Bool := (T.name.toList == U.name.toList) && ((T.tracks == U.tracks) && decide (T.labels = U.labels))
theorem labs_len {ls ms : List Lab} (h : ls.length ≠ ms.length) : decide (ls = ms) = false := decide_eq_false (fun e => h (by rw [e]))
theorem labs_ne {ls ms : List Lab} (k : Nat) (h1 : k < ls.length) (h2 : k < ms.length) (h : eqL ls[k] ms[k] = false) : decide (ls = ms) = false := decide_eq_false (fun e => by
  subst e
  rw [(eqL_iff _ _).2 rfl] at h
  cases h)
theorem labs_eq {ls ms : List Lab} (hl : ls.length = ms.length) (h : ∀ j (h1 : j < ls.length) (h2 : j < ms.length), eqL ls[j] ms[j] = true) : decide (ls = ms) = true :=
  decide_eq_true (List.ext_getElem hl (fun j h1 h2 => (eqL_iff _ _).1 (h j h1 h2)))
section
variable (A A2 : Option Addr) (c c2 : Nat) (xs ys : List LabE) (T U : Tab) (w : World)
set_option maxRecDepth 100000 in
set_option maxHeartbeats 8000000 in
theorem rsame_tab (h : TabAt w A c xs T) (hs : SmallT T) (h2 : TabAt w A2 c2 ys U) (hs2 : SmallT U) (r : Bool) (hr : sameT T U = r) :
    Calls Tryz.prog 20 #[.agg #[.string T.name, .int .i64 T.tracks, .slice A T.labels.length c], .agg #[.string U.name, .int .i64 U.tracks, .slice A2 U.labels.length c2]] w fun e w' => e = .returned (.bool r) ∧ Grew w w' := by
  subst hr
  have hg0 := ((Grew.refl w).alloc (.cells #[.string T.name, .int .i64 T.tracks, .slice A T.labels.length c] 24)).alloc (.cells #[.string U.name, .int .i64 U.tracks, .slice A2 U.labels.length c2] 24)
  have hb0 := (Blk.new w 24 #[.string T.name, .int .i64 T.tracks, .slice A T.labels.length c] rfl).alloc (.cells #[.string U.name, .int .i64 U.tracks, .slice A2 U.labels.length c2] 24)
  have hu0 := Blk.new (w.alloc (.cells #[.string T.name, .int .i64 T.tracks, .slice A T.labels.length c] 24)) 24 #[.string U.name, .int .i64 U.tracks, .slice A2 U.labels.length c2] (n := w.heap.size + 1) (by simp)
  have HE := Lib.hid (show sameT T U = ((T.name.toList == U.name.toList) && ((T.tracks == U.tracks) && decide (T.labels = U.labels))) from rfl)
  have HT := Lib.hid h
  have HU := Lib.hid h2
  have HS := Lib.hid hs
  have HS2 := Lib.hid hs2
  have hlen := hs.len
  have hlen2 := hs2.len
  clear h h2 hs hs2
  cases b1 : (T.name.toList == U.name.toList) with
  | false =>
    have HB := Lib.hid b1
    clear hb0 hu0
    go_enter Tryz.func20, Tryz.ntmps20
    go_wp2_with fail
    go_ret
    exact ⟨ret_bool (by rw [HE.out, HB.out]; rfl), hg0⟩
  | true =>
  have HB := Lib.hid b1
  cases b2 : (T.tracks == U.tracks) with
  | false =>
    have HB2 := Lib.hid b2
    have b2' := neq_bne _ _ b2
    clear hb0 hu0
    go_enter Tryz.func20, Tryz.ntmps20
    go_wp2_with fail
    go_ret
    exact ⟨ret_bool (by rw [HE.out, HB.out, HB2.out]; rfl), hg0⟩
  | true =>
  have HB2 := Lib.hid b2
  have b2' := neq_beq _ _ b2
  by_cases hl : T.labels.length = U.labels.length
  rotate_left
  · have HF := Lib.hid (labs_len hl)
    have hb : ((T.labels.length : Int) != (U.labels.length : Int)) = true := by rw [bne_iff_ne]; omega
    clear hl hb0 hu0
    go_enter Tryz.func20, Tryz.ntmps20
    go_wp2_with fail
    go_ret
    exact ⟨ret_bool (by rw [HE.out, HB.out, HB2.out, HF.out]; rfl), hg0⟩
  have hb : ((T.labels.length : Int) != (U.labels.length : Int)) = false := by rw [bne_eq_false_iff_eq]; omega
  have HL := Lib.hid hl
  clear hl
  have x2 := hb0.cell 2
  go_enter Tryz.func20, Tryz.ntmps20
  go_wp2_with fail
  go_loopg [5] T.labels.length (fun gk i wr => ∃ k : Nat, k ≤ T.labels.length ∧ gk = T.labels.length - k ∧ i = .int .i64 k ∧ (∀ j (h1 : j < T.labels.length) (h2 : j < U.labels.length), j < k → eqL T.labels[j] U.labels[j] = true) ∧ Blk wr w.heap.size 24 #[.string T.name, .int .i64 T.tracks, .slice A T.labels.length c] ∧ Blk wr (w.heap.size + 1) 24 #[.string U.name, .int .i64 U.tracks, .slice A2 U.labels.length c2] ∧ Grew w wr)
  case atStart => exact ⟨0, by omega, by omega, rfl, fun j _ _ h => by omega, hb0, hu0, hg0⟩
  case round =>
    obtain ⟨k, hk, hgk, rfl, hall, hbb, hub, hg⟩ := hrel
    have HGK := Lib.hid hgk
    have HA := Lib.hid hall
    have HG := Lib.hid hg
    have HBB := Lib.hid hbb
    have HUB := Lib.hid hub
    clear hgk hall x2 hb0 hu0 hg0 b1 b2 b2' hb
    have x2 := hbb.cell 2
    have hbl0 := hbb.lt
    have hul0 := hub.lt
    by_cases hlt : k < T.labels.length
    · have hlu : k < U.labels.length := by rw [← HL.out]; exact hlt
      obtain ⟨b, off, B, d, l, rfl, hbl, hxk, hv, hla, c0, c1, c2', c3, c4⟩ := (HT.out.hold hg).at_ hlt
      obtain ⟨b2, off2, B2, d2, m, rfl, hbl2, hxk2, hv2, hla2, m0, m1, m2, m3, m4⟩ := (HU.out.hold hg).at_ hlu
      have hle := HS.out.ext T.labels[k] (List.getElem_mem hlt)
      have hle2 := HS2.out.ext U.labels[k] (List.getElem_mem hlu)
      rw [hv] at hle
      rw [hv2] at hle2
      have HC := Lib.hid (requal_any B B2 d d2 l m _ (hla.hold (Grew.refl wr).drew) (hla2.hold (Grew.refl wr).drew) (by omega) (by omega))
      have HV := Lib.hid hv
      have HV2 := Lib.hid hv2
      have hS : (fun w' : World => w'.cell? ⟨w.heap.size, 2, none⟩ = some (.slice (some ⟨b, off, none⟩) T.labels.length c) ∧ w'.cell? ⟨w.heap.size + 1, 2, none⟩ = some (.slice (some ⟨b2, off2, none⟩) U.labels.length c2) ∧ w'.cell? ⟨b, off + k * 5, none⟩ = some (.int .i64 l.id) ∧ w'.cell? ⟨b, off + k * 5 + 1, none⟩ = some (.int .i64 l.unit) ∧ w'.cell? ⟨b, off + k * 5 + 2, none⟩ = some (.string l.name) ∧ w'.cell? ⟨b, off + k * 5 + 3, none⟩ = some (.string l.note) ∧ w'.cell? ⟨b, off + k * 5 + 4, none⟩ = some (.slice B l.ext.length d) ∧ w'.cell? ⟨b2, off2 + k * 5, none⟩ = some (.int .i64 m.id) ∧ w'.cell? ⟨b2, off2 + k * 5 + 1, none⟩ = some (.int .i64 m.unit) ∧ w'.cell? ⟨b2, off2 + k * 5 + 2, none⟩ = some (.string m.name) ∧ w'.cell? ⟨b2, off2 + k * 5 + 3, none⟩ = some (.string m.note) ∧ w'.cell? ⟨b2, off2 + k * 5 + 4, none⟩ = some (.slice B2 m.ext.length d2)) wr.drew := ⟨hbb.drew.cell 2, hub.drew.cell 2, c0, c1, c2', c3, c4, m0, m1, m2, m3, m4⟩
      have HSG := Lib.hid (show ∀ w1 : World, Grew wr.drew w1 → (fun w' : World => w'.cell? ⟨w.heap.size, 2, none⟩ = some (.slice (some ⟨b, off, none⟩) T.labels.length c) ∧ w'.cell? ⟨w.heap.size + 1, 2, none⟩ = some (.slice (some ⟨b2, off2, none⟩) U.labels.length c2) ∧ w'.cell? ⟨b, off + k * 5, none⟩ = some (.int .i64 l.id) ∧ w'.cell? ⟨b, off + k * 5 + 1, none⟩ = some (.int .i64 l.unit) ∧ w'.cell? ⟨b, off + k * 5 + 2, none⟩ = some (.string l.name) ∧ w'.cell? ⟨b, off + k * 5 + 3, none⟩ = some (.string l.note) ∧ w'.cell? ⟨b, off + k * 5 + 4, none⟩ = some (.slice B l.ext.length d) ∧ w'.cell? ⟨b2, off2 + k * 5, none⟩ = some (.int .i64 m.id) ∧ w'.cell? ⟨b2, off2 + k * 5 + 1, none⟩ = some (.int .i64 m.unit) ∧ w'.cell? ⟨b2, off2 + k * 5 + 2, none⟩ = some (.string m.name) ∧ w'.cell? ⟨b2, off2 + k * 5 + 3, none⟩ = some (.string m.note) ∧ w'.cell? ⟨b2, off2 + k * 5 + 4, none⟩ = some (.slice B2 m.ext.length d2)) w1 from fun w1 g1 => by
        have e1 := fun o => g1.cellEq w.heap.size o hbl0
        have e2 := fun o => g1.cellEq (w.heap.size + 1) o hul0
        have e3 := fun o => g1.cellEq b o hbl
        have e4 := fun o => g1.cellEq b2 o hbl2
        simp only [e1, e2, e3, e4]
        exact hS)
      clear hv hv2 hxk hxk2 hla hla2 hbb hub hg
      go_wp2_with fail
      refine wp_region_R [] (fun w' : World => w'.cell? ⟨w.heap.size, 2, none⟩ = some (.slice (some ⟨b, off, none⟩) T.labels.length c) ∧ w'.cell? ⟨w.heap.size + 1, 2, none⟩ = some (.slice (some ⟨b2, off2, none⟩) U.labels.length c2) ∧ w'.cell? ⟨b, off + k * 5, none⟩ = some (.int .i64 l.id) ∧ w'.cell? ⟨b, off + k * 5 + 1, none⟩ = some (.int .i64 l.unit) ∧ w'.cell? ⟨b, off + k * 5 + 2, none⟩ = some (.string l.name) ∧ w'.cell? ⟨b, off + k * 5 + 3, none⟩ = some (.string l.note) ∧ w'.cell? ⟨b, off + k * 5 + 4, none⟩ = some (.slice B l.ext.length d) ∧ w'.cell? ⟨b2, off2 + k * 5, none⟩ = some (.int .i64 m.id) ∧ w'.cell? ⟨b2, off2 + k * 5 + 1, none⟩ = some (.int .i64 m.unit) ∧ w'.cell? ⟨b2, off2 + k * 5 + 2, none⟩ = some (.string m.name) ∧ w'.cell? ⟨b2, off2 + k * 5 + 3, none⟩ = some (.string m.note) ∧ w'.cell? ⟨b2, off2 + k * 5 + 4, none⟩ = some (.slice B2 m.ext.length d2)) (by kernel_rfl) ?_
      refine wpAnyR_takeQ (i := 0) (v := ?_) (some 34) rfl rfl (by kernel_rfl) (by kernel_rfl) (by kernel_rfl) (by kernel_rfl) (fun _ _ _ h => h) (Or.inl ⟨by rfl, ?_⟩) ?_
      rotate_left
      focus (intro wS hSw; (try dsimp only at hSw); go_simp; (try with_reducible rfl); (try (first | (rw [if_pos (by omega)]; (try go_simp); (try with_reducible rfl)) | (rw [if_neg (by omega)]; (try go_simp); (try with_reducible rfl)))))
      try simp only [Act.put, zA, zB, zC]
      refine wpAnyR_take (i := 1) (v := ?_) [3, 4, 10, 11] (some 35) rfl rfl (by kernel_rfl) (by kernel_rfl) (by kernel_rfl) (by kernel_rfl) (by kernel_rfl) (by kernel_rfl) (by kernel_rfl) (fun _ _ _ h => h) (Or.inl ⟨by rfl, ?_⟩) hS ?_
      rotate_left
      focus (intro wS hSw; (try dsimp only at hSw); go_simp; (try with_reducible rfl); (try (first | (rw [if_pos (by omega)]; (try go_simp); (try with_reducible rfl)) | (rw [if_neg (by omega)]; (try go_simp); (try with_reducible rfl)))))
      try simp only [Act.put, zA, zB, zC]
      refine wpAnyR_takeQ (i := 2) (v := ?_) (some 36) rfl rfl (by kernel_rfl) (by kernel_rfl) (by kernel_rfl) (by kernel_rfl) (fun _ _ _ h => h) (Or.inl ⟨by rfl, ?_⟩) ?_
      rotate_left
      focus (intro wS hSw; (try dsimp only at hSw); go_simp; (try with_reducible rfl); (try (first | (rw [if_pos (by omega)]; (try go_simp); (try with_reducible rfl)) | (rw [if_neg (by omega)]; (try go_simp); (try with_reducible rfl)))))
      try simp only [Act.put, zA, zB, zC]
      refine wpAnyR_takeQ (i := 3) (v := ?_) (some 37) rfl rfl (by kernel_rfl) (by kernel_rfl) (by kernel_rfl) (by kernel_rfl) (fun _ _ _ h => h) (Or.inl ⟨by rfl, ?_⟩) ?_
      rotate_left
      focus (intro wS hSw; (try dsimp only at hSw); go_simp; (try with_reducible rfl); (try (first | (rw [if_pos (by omega)]; (try go_simp); (try with_reducible rfl)) | (rw [if_neg (by omega)]; (try go_simp); (try with_reducible rfl)))))
      try simp only [Act.put, zA, zB, zC]
      refine wpAnyR_take (i := 4) (v := ?_) [10, 11] (some 38) rfl rfl (by kernel_rfl) (by kernel_rfl) (by kernel_rfl) (by kernel_rfl) (by kernel_rfl) (by kernel_rfl) (by kernel_rfl) (fun _ _ _ h => h) (Or.inl ⟨by rfl, ?_⟩) hS ?_
      rotate_left
      focus (intro wS hSw; (try dsimp only at hSw); go_simp; (try with_reducible rfl); (try (first | (rw [if_pos (by omega)]; (try go_simp); (try with_reducible rfl)) | (rw [if_neg (by omega)]; (try go_simp); (try with_reducible rfl)))))
      try simp only [Act.put, zA, zB, zC]
      refine wpAnyR_takeQ (i := 5) (v := ?_) (some 39) rfl rfl (by kernel_rfl) (by kernel_rfl) (by kernel_rfl) (by kernel_rfl) (fun _ _ _ h => h) (Or.inl ⟨by rfl, ?_⟩) ?_
      rotate_left
      focus (intro wS hSw; (try dsimp only at hSw); go_simp; (try with_reducible rfl); (try (first | (rw [if_pos (by omega)]; (try go_simp); (try with_reducible rfl)) | (rw [if_neg (by omega)]; (try go_simp); (try with_reducible rfl)))))
      try simp only [Act.put, zA, zB, zC]
      refine wpAnyR_take (i := 6) (v := ?_) [8, 9, 10, 11] (some 40) rfl rfl (by kernel_rfl) (by kernel_rfl) (by kernel_rfl) (by kernel_rfl) (by kernel_rfl) (by kernel_rfl) (by kernel_rfl) (fun _ _ _ h => h) (Or.inl ⟨by rfl, ?_⟩) hS ?_
      rotate_left
      focus (intro wS hSw; (try dsimp only at hSw); go_simp; (try with_reducible rfl); (try (first | (rw [if_pos (by omega)]; (try go_simp); (try with_reducible rfl)) | (rw [if_neg (by omega)]; (try go_simp); (try with_reducible rfl)))))
      try simp only [Act.put, zA, zB, zC]
      refine wpAnyR_takeQ (i := 7) (v := ?_) (some 41) rfl rfl (by kernel_rfl) (by kernel_rfl) (by kernel_rfl) (by kernel_rfl) (fun _ _ _ h => h) (Or.inl ⟨by rfl, ?_⟩) ?_
      rotate_left
      focus (intro wS hSw; (try dsimp only at hSw); go_simp; (try with_reducible rfl); (try (first | (rw [if_pos (by omega)]; (try go_simp); (try with_reducible rfl)) | (rw [if_neg (by omega)]; (try go_simp); (try with_reducible rfl)))))
      try simp only [Act.put, zA, zB, zC]
      refine wpAnyR_takeQ (i := 8) (v := ?_) (some 42) rfl rfl (by kernel_rfl) (by kernel_rfl) (by kernel_rfl) (by kernel_rfl) (fun _ _ _ h => h) (Or.inl ⟨by rfl, ?_⟩) ?_
      rotate_left
      focus (intro wS hSw; (try dsimp only at hSw); go_simp; (try with_reducible rfl); (try (first | (rw [if_pos (by omega)]; (try go_simp); (try with_reducible rfl)) | (rw [if_neg (by omega)]; (try go_simp); (try with_reducible rfl)))))
      try simp only [Act.put, zA, zB, zC]
      refine wpAnyR_take (i := 9) (v := ?_) [10, 11] (some 43) rfl rfl (by kernel_rfl) (by kernel_rfl) (by kernel_rfl) (by kernel_rfl) (by kernel_rfl) (by kernel_rfl) (by kernel_rfl) (fun _ _ _ h => h) (Or.inl ⟨by rfl, ?_⟩) hS ?_
      rotate_left
      focus (intro wS hSw; (try dsimp only at hSw); go_simp; (try with_reducible rfl); (try (first | (rw [if_pos (by omega)]; (try go_simp); (try with_reducible rfl)) | (rw [if_neg (by omega)]; (try go_simp); (try with_reducible rfl)))))
      try simp only [Act.put, zA, zB, zC]
      refine wpAnyR_n1 (i := 10) rfl (by kernel_rfl) ?_
      intro K' hK
      rw [if_pos (by rfl)]
      simp only [List.getElem_toArray, List.getElem_cons_succ, List.getElem_cons_zero]
      go_wp2_with fail
      refine HC.out.mono ?_
      rintro e w3 ⟨rfl, g3⟩
      have HG3 := Lib.hid ((Grew.refl wr).drew.trans g3)
      cases he : eqL l m with
      | false =>
        have HF := Lib.hid (labs_ne k hlt hlu (by rw [HV.out, HV2.out]; exact he))
        clear he
        go_wp2_with fail
        refine hK.out _ _ (.inr (fun _ => HSG.out _ g3)) ?_
        clear hK
        refine wpAnyR_takeQ (i := 11) (v := ?_) (some 45) rfl rfl (by kernel_rfl) (by kernel_rfl) (by kernel_rfl) (by kernel_rfl) (fun _ _ _ h => h) (Or.inl ⟨by rfl, ?_⟩) ?_
        rotate_left
        focus (intro wS hSw; (try dsimp only at hSw); go_simp; (try with_reducible rfl); (try (first | (rw [if_pos (by omega)]; (try go_simp); (try with_reducible rfl)) | (rw [if_neg (by omega)]; (try go_simp); (try with_reducible rfl)))))
        try simp only [Act.put, zA, zB, zC]
        refine wpAnyR_done (by kernel_rfl) ?_ _
        clear hS c0 c1 c2' c3 c4 m0 m1 m2 m3 m4 x2 g3
        go_wp2_with fail
        go_ret
        exact ⟨ret_bool (by rw [HE.out, HB.out, HB2.out, HF.out]; rfl), HG.out.trans HG3.out⟩
      | true =>
        have HN := Lib.hid (show ∀ j (h1 : j < T.labels.length) (h2 : j < U.labels.length), j < k + 1 → eqL T.labels[j] U.labels[j] = true from fun j h1 h2 hjk => by
          by_cases hjk' : j = k
          · subst hjk'; rw [HV.out, HV2.out]; exact he
          · exact HA.out j h1 h2 (by omega))
        clear he
        go_wp2_with fail
        refine hK.out _ _ (.inr (fun _ => HSG.out _ g3)) ?_
        clear hK
        refine wpAnyR_takeQ (i := 11) (v := ?_) (some 45) rfl rfl (by kernel_rfl) (by kernel_rfl) (by kernel_rfl) (by kernel_rfl) (fun _ _ _ h => h) (Or.inl ⟨by rfl, ?_⟩) ?_
        rotate_left
        focus (intro wS hSw; (try dsimp only at hSw); go_simp; (try with_reducible rfl); (try (first | (rw [if_pos (by omega)]; (try go_simp); (try with_reducible rfl)) | (rw [if_neg (by omega)]; (try go_simp); (try with_reducible rfl)))))
        try simp only [Act.put, zA, zB, zC]
        refine wpAnyR_done (by kernel_rfl) ?_ _
        clear hS c0 c1 c2' c3 c4 m0 m1 m2 m3 m4 x2 g3
        go_wp2_with fail
        go_roundg (T.labels.length - (k + 1))
        case measure => rw [HGK.out]; omega
        case rel => exact ⟨k + 1, by omega, by omega, by go_num, HN.out, HBB.out.grew HG3.out, HUB.out.grew HG3.out, HG.out.trans HG3.out⟩
    · have HF := Lib.hid (labs_eq HL.out (fun j h1 h2 => HA.out j h1 h2 (by omega)))
      clear hbb hub hg
      go_wp2_with fail
      go_ret
      exact ⟨ret_bool (by rw [HE.out, HB.out, HB2.out, HF.out]; rfl), HG.out⟩
end
end Go.Proofs.YtnlaogneceanoaaGreat
namespace Go.Proofs.YtnlaogneceanoaaGreat
set_option linter.unusedVariables false
set_option linter.unusedSimpArgs false
set_option linter.unusedSectionVars false
open Go.ChangeShapes Go.WideShapes Go.ChangeAt Go.RowKit Go.Deep
def StrsAt (w : World) (B : Nat) (A : Option Addr) (l : List ByteArray) : Prop := (∀ s ∈ l, s.size ≤ 9223372036854775807) ∧ ListAt w B 1 A (l.map strC)
set_option maxRecDepth 100000 in
theorem open_strs {H : Type} {enc : TypeId × Value → H} {w : World} {r : Reach} {b0 : Nat} {v : Value} {d : DataW H} {ps : List MemPlace} (hv : Value.okWide Tryz.prog w r b0 50 v) (hd : DataW.Trod enc Tryz.prog w 0 (fun _ => true) true 50 v d ps) :
    ∃ A c, ∃ l : List ByteArray, v = .slice A l.length c ∧ l.length ≤ c ∧ c ≤ 9223372036854775807 ∧ StrsAt w w.heap.size A l := by
  obtain ⟨A, c, l, rfl, h1, h2, h3, h4⟩ := open_list (α := ByteArray) (sz := 1) Tryz.underlying50 (by kernel_rfl) (by omega) strC (fun s => s.size ≤ 9223372036854775807) (fun n cs y hlen h => by
      match cs, hlen with
      | [v], _ =>
        obtain ⟨n0, hn0, _, w0⟩ := DataW.trod_string Tryz.underlying9 h
        injection hn0 with hn0 _
        subst hn0
        unfold maxLen at w0
        exact ⟨n0, by simpa using w0, rfl⟩) hv hd
  exact ⟨A, c, l, rfl, h1, h2, h3, h4⟩
end Go.Proofs.YtnlaogneceanoaaGreat
