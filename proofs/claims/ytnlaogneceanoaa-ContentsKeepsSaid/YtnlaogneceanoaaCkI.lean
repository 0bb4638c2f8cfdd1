/- Chapter 8: what Confirm does with a label. A slice of the call's own, cut to its first elements; 'clear' on the others. -/
import Derived.Laws.CopyRow
import Derived.Test.YtnlaogneceanoaaCkA
import Derived.Test.YtnlaogneceanoaaCkH
namespace Go.Proofs.Ytnlaogneceanoaa
set_option linter.unusedVariables false
set_option linter.unusedSimpArgs false
set_option linter.unusedSectionVars false
open Go.RowKit
attribute [local go_sem ↓] Go.wp_at_zero Go.wp_at_succ
theorem TabO.drew {w : World} {base : Nat} {v : Value} {ys : List LabE} {ls : List Lab} (h : TabO w base v ys ls) : TabO w.drew base v ys ls := h.hold (Grew.refl w).drew
section
variable (w w1 : World) (base g cap xo : Nat) (ys : List LabE) (T : Tab) (k : Nat) (hk : k < T.labels.length) (h : OutAt w w1 base g cap xo ys T)
include h
set_option maxRecDepth 100000 in
set_option maxHeartbeats 8000000 in
theorem confirm1_any (hs : SmallT T) (hn0 : T.name.size ≤ 9223372036854775807) (ht0 : -9223372036854775808 ≤ T.tracks) (ht1 : T.tracks ≤ 9223372036854775807) (note : ByteArray) (hns : note.size ≤ 9223372036854775807) (id unit : Int) (gn gr : Nat) (hbn : Blk w gn 9 #[.string note]) (hbr : Blk w gr 37 #[.int .i64 id, .int .i64 unit]) :
    Calls Try.prog 38 #[.pointer (some ⟨g, k * 5, none⟩), .pointer (some ⟨xo, 0, none⟩), .pointer (some ⟨gn, 0, none⟩), .pointer (some ⟨gr, 0, none⟩)] w1 (ChgR w1 base g cap T.labels.length (chCon T id note k T.labels[k])) := by
  have hbn1 := hbn.grew h.grew
  have hbr1 := hbr.grew h.grew
  have hg1 := h.tab.own.block_lt.2
  have hxo := h.blk.lt
  have hgn := hbn1.lt
  have hgr := hbr1.lt
  have hne := h.ne
  have hgng : ¬ gn = g := by have := h.hg; have := hbn.lt; omega
  have hgrg : ¬ gr = g := by have := h.hg; have := hbr.lt; omega
  have y0 : w1.cell? ⟨g, k * 5, none⟩ = some (.int .i64 T.labels[k].id) := h.tab.row0 hk
  have y1 : w1.cell? ⟨g, k * 5 + 1, none⟩ = some (.int .i64 T.labels[k].unit) := h.tab.row1 hk
  have n0 := hbn1.cell 0
  have r0 := hbr1.cell 0
  have HTAB := Lib.hid h.tab
  have HBO := Lib.hid h.blk
  have HBN := Lib.hid hbn1
  have HBR := Lib.hid hbr1
  have HC := Lib.hid (show chCon T id note k T.labels[k] = if T.labels[k].unit = 0 then (T.labels, 9) else if 400 < note.size then (T.labels, 1)
  else ((if 0 ≤ idxT T id 0 then T.labels.set (idxT T id 0).toNat labZ else T.labels).set k { T.labels[k] with unit := 0, note := note }, 0) from rfl)
  have hxs := h.blk
  clear h hbn hbr hbn1 hbr1
  cases hu : (T.labels[k].unit == 0) with
  | true =>
    have HE := Lib.hid (HC.out.trans (if_pos (by simpa using hu)))
    clear hxs
    go_enter Try.func38, Try.ntmps38
    go_wp2_with fail
    go_ret
    rw [HE.out]
    exact ⟨rfl, ⟨_, HTAB.out⟩, by (repeat' first | (with_reducible exact Turned.refl _ _) | (with_reducible assumption) | (with_reducible refine Turned.alloc ?_ _) | (with_reducible refine Turned.drew ?_) | (with_reducible refine Turned.drewN ?_ _) | (with_reducible refine Turned.setRow ?_ (by first | (simp; done) | (simp; omega) | omega) _) | (with_reducible refine Turned.setCell ?_ (by first | (simp; done) | (simp; omega) | omega) _) | ((with_reducible apply Turned.andGrew); rotate_left; (with_reducible assumption)) | ((with_reducible apply Turned.trans); rotate_left; (with_reducible assumption)) | fail)⟩
  | false =>
    have hu' : T.labels[k].unit ≠ 0 := by simpa using hu
    by_cases hn : 400 < note.size
    · have HE := Lib.hid (HC.out.trans (by rw [if_neg hu', if_pos hn]))
      have hni : (note.size : Int) > 400 := by omega
      clear hxs
      go_enter Try.func38, Try.ntmps38
      go_wp2_with fail
      go_ret
      rw [HE.out]
      exact ⟨rfl, ⟨_, HTAB.out⟩, by (repeat' first | (with_reducible exact Turned.refl _ _) | (with_reducible assumption) | (with_reducible refine Turned.alloc ?_ _) | (with_reducible refine Turned.drew ?_) | (with_reducible refine Turned.drewN ?_ _) | (with_reducible refine Turned.setRow ?_ (by first | (simp; done) | (simp; omega) | omega) _) | (with_reducible refine Turned.setCell ?_ (by first | (simp; done) | (simp; omega) | omega) _) | ((with_reducible apply Turned.andGrew); rotate_left; (with_reducible assumption)) | ((with_reducible apply Turned.trans); rotate_left; (with_reducible assumption)) | fail)⟩
    have hni : ¬ (note.size : Int) > 400 := by omega
    obtain ⟨ix, hix⟩ : ∃ ix, idxT T id 0 = ix := ⟨_, rfl⟩
    have hTA := HTAB.out.tabAt T.name T.tracks hn0 ht0 ht1
    have HIX := Lib.hid (fun w2 (g2 : Grew w1 w2) => cindex_any _ _ _ T id 0 w2 (hTA.hold g2) hs T.labels.length rfl ix hix)
    have hS : (fun w' : World => w'.cell? ⟨xo, 0, none⟩ = some (.string T.name) ∧ w'.cell? ⟨xo, 1, none⟩ = some (.int .i64 T.tracks) ∧ w'.cell? ⟨xo, 2, none⟩ = some (.slice (some ⟨g, 0, none⟩) T.labels.length cap) ∧ w'.cell? ⟨gr, 0, none⟩ = some (.int .i64 id)) w1.drew := ⟨hxs.drew.cell 0, hxs.drew.cell 1, hxs.drew.cell 2, r0⟩
    rcases idxP_cases (hitL id 0) T.labels with ⟨j, hj, hj1, hj2, _⟩ | ⟨hj1, _⟩
    · have hij : ix = (j : Int) := hix.symm.trans hj1
      obtain ⟨_, _, hj3⟩ := (hitL_iff _ _ _).1 hj2
      have hjk : j ≠ k := by rintro rfl; exact hu' hj3
      subst hij
      have HE := Lib.hid (HC.out.trans (by rw [if_neg hu', if_neg hn, if_pos (by rw [hix]; omega), hix, Int.toNat_natCast]))
      have hjn : (j : Int) < (T.labels.length : Int) := by omega
      have HLK := Lib.hid (show (T.labels.set j labZ)[k]'(by simpa using hk) = T.labels[k] from List.getElem_set_ne hjk _)
      clear hix hTA hj1 hj2 hxs hu'
      go_enter Try.func38, Try.ntmps38
      go_wp2_with fail
      refine wp_region_R [] (fun w' : World => w'.cell? ⟨xo, 0, none⟩ = some (.string T.name) ∧ w'.cell? ⟨xo, 1, none⟩ = some (.int .i64 T.tracks) ∧ w'.cell? ⟨xo, 2, none⟩ = some (.slice (some ⟨g, 0, none⟩) T.labels.length cap) ∧ w'.cell? ⟨gr, 0, none⟩ = some (.int .i64 id)) (by kernel_rfl) ?_
      refine wpAnyR_takeQ (i := 0) (v := ?_) (some 16) rfl rfl (by kernel_rfl) (by kernel_rfl) (by kernel_rfl) (by kernel_rfl) (fun _ _ _ h => h) (Or.inl ⟨by rfl, ?_⟩) ?_
      rotate_left
      focus (intro wS hSw; (try dsimp only at hSw); go_simp; (try with_reducible rfl); (try (first | (rw [if_pos (by omega)]; (try go_simp); (try with_reducible rfl)) | (rw [if_neg (by omega)]; (try go_simp); (try with_reducible rfl)))))
      try simp only [Act.put, zA, zB, zC]
      refine wpAnyR_take (i := 1) (v := ?_) [2, 6, 7] (some 17) rfl rfl (by kernel_rfl) (by kernel_rfl) (by kernel_rfl) (by kernel_rfl) (by kernel_rfl) (by kernel_rfl) (by kernel_rfl) (fun _ _ _ h => h) (Or.inl ⟨by rfl, ?_⟩) hS ?_
      rotate_left
      focus (intro wS hSw; (try dsimp only at hSw); go_simp; (try with_reducible rfl); (try (first | (rw [if_pos (by omega)]; (try go_simp); (try with_reducible rfl)) | (rw [if_neg (by omega)]; (try go_simp); (try with_reducible rfl)))))
      try simp only [Act.put, zA, zB, zC]
      refine wpAnyR_take (i := 2) (v := ?_) [6, 7] (some 18) rfl rfl (by kernel_rfl) (by kernel_rfl) (by kernel_rfl) (by kernel_rfl) (by kernel_rfl) (by kernel_rfl) (by kernel_rfl) (fun _ _ _ h => h) (Or.inl ⟨by rfl, ?_⟩) hS ?_
      rotate_left
      focus (intro wS hSw; (try dsimp only at hSw); go_simp; (try with_reducible rfl); (try (first | (rw [if_pos (by omega)]; (try go_simp); (try with_reducible rfl)) | (rw [if_neg (by omega)]; (try go_simp); (try with_reducible rfl)))))
      try simp only [Act.put, zA, zB, zC]
      refine wpAnyR_takeQ (i := 3) (v := ?_) (some 19) rfl rfl (by kernel_rfl) (by kernel_rfl) (by kernel_rfl) (by kernel_rfl) (fun _ _ _ h => h) (Or.inl ⟨by rfl, ?_⟩) ?_
      rotate_left
      focus (intro wS hSw; (try dsimp only at hSw); go_simp; (try with_reducible rfl); (try (first | (rw [if_pos (by omega)]; (try go_simp); (try with_reducible rfl)) | (rw [if_neg (by omega)]; (try go_simp); (try with_reducible rfl)))))
      try simp only [Act.put, zA, zB, zC]
      refine wpAnyR_take (i := 4) (v := ?_) [5, 6, 7] (some 20) rfl rfl (by kernel_rfl) (by kernel_rfl) (by kernel_rfl) (by kernel_rfl) (by kernel_rfl) (by kernel_rfl) (by kernel_rfl) (fun _ _ _ h => h) (Or.inl ⟨by rfl, ?_⟩) hS ?_
      rotate_left
      focus (intro wS hSw; (try dsimp only at hSw); go_simp; (try with_reducible rfl); (try (first | (rw [if_pos (by omega)]; (try go_simp); (try with_reducible rfl)) | (rw [if_neg (by omega)]; (try go_simp); (try with_reducible rfl)))))
      try simp only [Act.put, zA, zB, zC]
      refine wpAnyR_takeQ (i := 5) (v := ?_) (some 21) rfl rfl (by kernel_rfl) (by kernel_rfl) (by kernel_rfl) (by kernel_rfl) (fun _ _ _ h => h) (Or.inl ⟨by rfl, ?_⟩) ?_
      rotate_left
      focus (intro wS hSw; (try dsimp only at hSw); go_simp; (try with_reducible rfl); (try (first | (rw [if_pos (by omega)]; (try go_simp); (try with_reducible rfl)) | (rw [if_neg (by omega)]; (try go_simp); (try with_reducible rfl)))))
      try simp only [Act.put, zA, zB, zC]
      refine wpAnyR_n1 (i := 6) rfl (by kernel_rfl) ?_
      intro K' hK
      rw [if_pos (by rfl)]
      simp only [List.getElem_toArray, List.getElem_cons_succ, List.getElem_cons_zero]
      go_wp2_with fail
      refine (HIX.out _ (Grew.refl w1).drew).mono ?_
      rintro e w2 ⟨rfl, g2⟩
      have g2' : Grew w1 w2 := (Grew.refl w1).drew.trans g2
      go_wp2_with fail
      refine hK.out _ _ (.inr (fun h => by
        simp only [g2'.cellEq _ _ hxo, g2'.cellEq _ _ hgr]
        exact hS)) ?_
      clear hK hS
      refine wpAnyR_takeQ (i := 7) (v := ?_) (some 7) rfl rfl (by kernel_rfl) (by kernel_rfl) (by kernel_rfl) (by kernel_rfl) (fun _ _ _ h => h) (Or.inl ⟨by rfl, ?_⟩) ?_
      rotate_left
      focus (intro wS hSw; (try dsimp only at hSw); go_simp; (try with_reducible rfl); (try (first | (rw [if_pos (by omega)]; (try go_simp); (try with_reducible rfl)) | (rw [if_neg (by omega)]; (try go_simp); (try with_reducible rfl)))))
      try simp only [Act.put, zA, zB, zC]
      refine wpAnyR_done (by kernel_rfl) ?_ _
      have o2 := HBO.out.grew g2'
      have u0 := o2.cell 0
      have u1 := o2.cell 1
      have u2 := o2.cell 2
      have hxl2 := o2.lt
      have ht2 := HTAB.out.hold g2'
      obtain ⟨B2, d2, hrow2, _, _, _⟩ := ht2.row hj
      have a0 : w2.cell? ⟨g, j * 5, none⟩ = some (.int .i64 T.labels[j].id) := ht2.own.cell0 hrow2 rfl
      have a1 : w2.cell? ⟨g, j * 5 + 1, none⟩ = some (.int .i64 T.labels[j].unit) := ht2.own.cell hrow2 (i := 1) rfl
      have a2 : w2.cell? ⟨g, j * 5 + 2, none⟩ = some (.string T.labels[j].name) := ht2.own.cell hrow2 (i := 2) rfl
      have a3 : w2.cell? ⟨g, j * 5 + 3, none⟩ = some (.string T.labels[j].note) := ht2.own.cell hrow2 (i := 3) rfl
      have a4 : w2.cell? ⟨g, j * 5 + 4, none⟩ = some (.slice B2 T.labels[j].ext.length d2) := ht2.own.cell hrow2 (i := 4) rfl
      have af0 := ht2.own.frozen (j * 5)
      have af1 := ht2.own.frozen (j * 5 + 1)
      have af2 := ht2.own.frozen (j * 5 + 2)
      have af3 := ht2.own.frozen (j * 5 + 3)
      have af4 := ht2.own.frozen (j * 5 + 4)
      have HT3 := Lib.hid (ht2.set5 hj ⟨none, 0, labZ⟩ (LabAt.zero _) (fun h0 => absurd h0 (by decide)))
      have HTU3 := Lib.hid ((g2'.turned (fun x => x = g)).trans (set5_turned w2 g (j * 5) (.int .i64 0) (.int .i64 0) (.string ⟨#[]⟩) (.string ⟨#[]⟩) (.slice none 0 0)))
      have HB2 := Lib.hid (HBN.out.grew g2')
      clear ht2 hrow2 o2
      go_wp2_with fail
      obtain ⟨W, hW⟩ : ∃ W, W = ((((w2.setCell ⟨g, j * 5, none⟩ (.int .i64 0)).setCell ⟨g, j * 5 + 1, none⟩ (.int .i64 0)).setCell ⟨g, j * 5 + 2, none⟩ (.string ⟨#[]⟩)).setCell ⟨g, j * 5 + 3, none⟩ (.string ⟨#[]⟩)).setCell ⟨g, j * 5 + 4, none⟩ (.slice none 0 0) := ⟨_, rfl⟩
      rw [← hW]
      obtain ⟨ys3, HT3'⟩ : ∃ ys3, TabO W base (.slice (some ⟨g, 0, none⟩) T.labels.length cap) ys3 (T.labels.set j labZ) := ⟨_, by rw [hW]; exact HT3.out⟩
      have HTW : Turned (fun x => x = g) w1 W := by rw [hW]; exact HTU3.out
      have HBW : Blk W gn 9 #[.string note] := HBN.out.turned HTW hgng
      have hk' : k < (T.labels.set j labZ).length := by simpa using hk
      have hk2 : (T.labels.set j labZ)[k]'hk' = T.labels[k] := by first | exact HLK.out | rfl
      have ht3 := HT3'
      have z0 : W.cell? ⟨g, k * 5, none⟩ = some (.int .i64 T.labels[k].id) := by rw [← hk2]; exact ht3.row0 hk'
      have z1 : W.cell? ⟨g, k * 5 + 1, none⟩ = some (.int .i64 T.labels[k].unit) := by rw [← hk2]; exact ht3.row1 hk'
      have zf1 := ht3.own.frozen (k * 5 + 1)
      have hg3 := ht3.own.block_lt.2
      obtain ⟨ys4, ht4⟩ := ht3.drew.unit_ hk' 0 (by omega)
      have hk4 : k < ((T.labels.set j labZ).set k { (T.labels.set j labZ)[k]'hk' with unit := 0 }).length := by simpa using hk
      have hk5 : ((T.labels.set j labZ).set k { (T.labels.set j labZ)[k]'hk' with unit := 0 })[k]'hk4 = { T.labels[k] with unit := 0 } := by rw [List.getElem_set_self, hk2]
      have HZ0 := Lib.hid (show (World.setCell W.drew ⟨g, k * 5 + 1, none⟩ (.int .i64 0)).cell? ⟨g, k * 5, none⟩ = some (.int .i64 T.labels[k].id) from by have := ht4.row0 hk4; rwa [hk5] at this)
      have z3 : (World.setCell W.drew ⟨g, k * 5 + 1, none⟩ (.int .i64 0)).cell? ⟨g, k * 5 + 3, none⟩ = some (.string T.labels[k].note) := by have := ht4.row3 hk4; rwa [hk5] at this
      have y3 : W.cell? ⟨g, k * 5 + 3, none⟩ = some (.string T.labels[k].note) := by rw [← hk2]; exact ht3.row3 hk'
      have zf3 := ht3.own.frozen (k * 5 + 3)
      obtain ⟨ys5, ht5⟩ := ht4.note_ hk4 note hns
      have HT5 := Lib.hid (show ∃ ys, TabO _ base (.slice (some ⟨g, 0, none⟩) T.labels.length cap) ys ((T.labels.set j labZ).set k { T.labels[k] with unit := 0, note := note }) from ⟨ys5, by rw [hk5, List.set_set] at ht5; exact ht5⟩)
      have HTU := Lib.hid (((HTW).drew.trans (set_turned _ g (k * 5 + 1) (.int .i64 0))).trans (set_turned _ g (k * 5 + 3) (.string note)))
      have HB3 := Lib.hid (HBW)
      have hgn3 := HB3.out.lt
      have b3 := HB3.out.cell 0
      clear ht3 ht4 ht5 hk5
      clear a0 a1 a2 a3 a4 af0 af1 af2 af3 af4 hW HT3' HTW HBW u0 u1 u2 y0 y1 n0 r0 HT3 HTU3 HB2
      refine wp_region_R [8] (fun w' : World => w'.cell? ⟨gn, 0, none⟩ = some (.string note) ∧ w'.cell? ⟨g, k * 5, none⟩ = some (.int .i64 T.labels[k].id)) (by kernel_rfl) ?_
      have hS : (fun w' : World => w'.cell? ⟨gn, 0, none⟩ = some (.string note) ∧ w'.cell? ⟨g, k * 5, none⟩ = some (.int .i64 T.labels[k].id)) (World.drew _) := ⟨HB3.out.drew.cell 0, z0⟩
      refine wpAnyR_takeQ (i := 0) (v := ?_) (some 32) rfl rfl (by kernel_rfl) (by kernel_rfl) (by kernel_rfl) (by kernel_rfl) (fun _ _ _ h => h) (Or.inl ⟨by rfl, ?_⟩) ?_
      rotate_left
      focus (intro wS hSw; (try dsimp only at hSw); go_simp; (try with_reducible rfl); (try (first | (rw [if_pos (by omega)]; (try go_simp); (try with_reducible rfl)) | (rw [if_neg (by omega)]; (try go_simp); (try with_reducible rfl)))))
      try simp only [Act.put, zA, zB, zC]
      refine wpAnyR_takeQ (i := 1) (v := ?_) (some 33) rfl rfl (by kernel_rfl) (by kernel_rfl) (by kernel_rfl) (by kernel_rfl) (fun _ _ _ h => h) (Or.inl ⟨by rfl, ?_⟩) ?_
      rotate_left
      focus (intro wS hSw; (try dsimp only at hSw); go_simp; (try with_reducible rfl); (try (first | (rw [if_pos (by omega)]; (try go_simp); (try with_reducible rfl)) | (rw [if_neg (by omega)]; (try go_simp); (try with_reducible rfl)))))
      try simp only [Act.put, zA, zB, zC]
      refine wpAnyR_take (i := 2) (v := ?_) [6, 7, 8] (some 34) rfl rfl (by kernel_rfl) (by kernel_rfl) (by kernel_rfl) (by kernel_rfl) (by kernel_rfl) (by kernel_rfl) (by kernel_rfl) (fun _ _ _ h => h) (Or.inl ⟨by rfl, ?_⟩) hS ?_
      rotate_left
      focus (intro wS hSw; (try dsimp only at hSw); go_simp; (try with_reducible rfl); (try (first | (rw [if_pos (by omega)]; (try go_simp); (try with_reducible rfl)) | (rw [if_neg (by omega)]; (try go_simp); (try with_reducible rfl)))))
      try simp only [Act.put, zA, zB, zC]
      refine wpAnyR_take (i := 3) (v := ?_) [4, 5, 6, 7, 8] (some 35) rfl rfl (by kernel_rfl) (by kernel_rfl) (by kernel_rfl) (by kernel_rfl) (by kernel_rfl) (by kernel_rfl) (by kernel_rfl) (fun _ _ _ h => h) (Or.inl ⟨by rfl, ?_⟩) hS ?_
      rotate_left
      focus (intro wS hSw; (try dsimp only at hSw); go_simp; (try with_reducible rfl); (try (first | (rw [if_pos (by omega)]; (try go_simp); (try with_reducible rfl)) | (rw [if_neg (by omega)]; (try go_simp); (try with_reducible rfl)))))
      try simp only [Act.put, zA, zB, zC]
      refine wpAnyR_takeQ (i := 4) (v := ?_) (some 36) rfl rfl (by kernel_rfl) (by kernel_rfl) (by kernel_rfl) (by kernel_rfl) (fun _ _ _ h => h) (Or.inl ⟨by rfl, ?_⟩) ?_
      rotate_left
      focus (intro wS hSw; (try dsimp only at hSw); go_simp; (try with_reducible rfl); (try (first | (rw [if_pos (by omega)]; (try go_simp); (try with_reducible rfl)) | (rw [if_neg (by omega)]; (try go_simp); (try with_reducible rfl)))))
      try simp only [Act.put, zA, zB, zC]
      refine wpAnyR_n1 (i := 5) rfl (by kernel_rfl) ?_
      intro K' hK
      rw [if_pos (by rfl)]
      simp only [List.getElem_toArray, List.getElem_cons_succ, List.getElem_cons_zero]
      go_wp2_with fail
      refine hK.out _ _ (.inr (fun h => ⟨(HB3.out.drew.far (p := ⟨g, k * 5 + 1, none⟩) hgng (.int .i64 0)).cell 0, HZ0.out⟩)) ?_
      clear hK hS
      have hS : (fun w' : World => w'.cell? ⟨gn, 0, none⟩ = some (.string note) ∧ w'.cell? ⟨g, k * 5, none⟩ = some (.int .i64 T.labels[k].id)) (W.setCell ⟨g, k * 5 + 1, none⟩ (.int .i64 0)).drew := ⟨(HB3.out.drew.far (p := ⟨g, k * 5 + 1, none⟩) hgng (.int .i64 0)).cell 0, HZ0.out⟩
      refine wpAnyR_take (i := 6) (v := ?_) [7, 8] (some 37) rfl rfl (by kernel_rfl) (by kernel_rfl) (by kernel_rfl) (by kernel_rfl) (by kernel_rfl) (by kernel_rfl) (by kernel_rfl) (fun _ _ _ h => h) (Or.inl ⟨by rfl, ?_⟩) hS ?_
      rotate_left
      focus (intro wS hSw; (try dsimp only at hSw); go_simp; (try with_reducible rfl); (try (first | (rw [if_pos (by omega)]; (try go_simp); (try with_reducible rfl)) | (rw [if_neg (by omega)]; (try go_simp); (try with_reducible rfl)))))
      try simp only [Act.put, zA, zB, zC]
      refine wpAnyR_takeQ (i := 7) (v := ?_) (some 38) rfl rfl (by kernel_rfl) (by kernel_rfl) (by kernel_rfl) (by kernel_rfl) (fun _ _ _ h => h) (Or.inl ⟨by rfl, ?_⟩) ?_
      rotate_left
      focus (intro wS hSw; (try dsimp only at hSw); go_simp; (try with_reducible rfl); (try (first | (rw [if_pos (by omega)]; (try go_simp); (try with_reducible rfl)) | (rw [if_neg (by omega)]; (try go_simp); (try with_reducible rfl)))))
      try simp only [Act.put, zA, zB, zC]
      refine wpAnyR_n1 (i := 8) rfl (by kernel_rfl) ?_
      intro K' hK
      rw [if_pos (by rfl)]
      simp only [List.getElem_toArray, List.getElem_cons_succ, List.getElem_cons_zero]
      go_wp2_with fail
      refine hK.out _ _ (.inl rfl) ?_
      clear hK
      refine wpAnyR_done (by kernel_rfl) ?_ _
      go_wp2_with fail
      go_ret
      rw [HE.out]
      exact ⟨rfl, HT5.out, HTU.out⟩
    · have hij : ix = -1 := hix.symm.trans hj1
      subst hij
      have HE := Lib.hid (HC.out.trans (by rw [if_neg hu', if_neg hn, if_neg (by rw [hix]; omega)]))
      have HLK := Lib.hid (show (T.labels)[k]'(by simpa using hk) = T.labels[k] from rfl)
      clear hix hTA hj1 hxs hu'
      go_enter Try.func38, Try.ntmps38
      go_wp2_with fail
      refine wp_region_R [] (fun w' : World => w'.cell? ⟨xo, 0, none⟩ = some (.string T.name) ∧ w'.cell? ⟨xo, 1, none⟩ = some (.int .i64 T.tracks) ∧ w'.cell? ⟨xo, 2, none⟩ = some (.slice (some ⟨g, 0, none⟩) T.labels.length cap) ∧ w'.cell? ⟨gr, 0, none⟩ = some (.int .i64 id)) (by kernel_rfl) ?_
      refine wpAnyR_takeQ (i := 0) (v := ?_) (some 16) rfl rfl (by kernel_rfl) (by kernel_rfl) (by kernel_rfl) (by kernel_rfl) (fun _ _ _ h => h) (Or.inl ⟨by rfl, ?_⟩) ?_
      rotate_left
      focus (intro wS hSw; (try dsimp only at hSw); go_simp; (try with_reducible rfl); (try (first | (rw [if_pos (by omega)]; (try go_simp); (try with_reducible rfl)) | (rw [if_neg (by omega)]; (try go_simp); (try with_reducible rfl)))))
      try simp only [Act.put, zA, zB, zC]
      refine wpAnyR_take (i := 1) (v := ?_) [2, 6, 7] (some 17) rfl rfl (by kernel_rfl) (by kernel_rfl) (by kernel_rfl) (by kernel_rfl) (by kernel_rfl) (by kernel_rfl) (by kernel_rfl) (fun _ _ _ h => h) (Or.inl ⟨by rfl, ?_⟩) hS ?_
      rotate_left
      focus (intro wS hSw; (try dsimp only at hSw); go_simp; (try with_reducible rfl); (try (first | (rw [if_pos (by omega)]; (try go_simp); (try with_reducible rfl)) | (rw [if_neg (by omega)]; (try go_simp); (try with_reducible rfl)))))
      try simp only [Act.put, zA, zB, zC]
      refine wpAnyR_take (i := 2) (v := ?_) [6, 7] (some 18) rfl rfl (by kernel_rfl) (by kernel_rfl) (by kernel_rfl) (by kernel_rfl) (by kernel_rfl) (by kernel_rfl) (by kernel_rfl) (fun _ _ _ h => h) (Or.inl ⟨by rfl, ?_⟩) hS ?_
      rotate_left
      focus (intro wS hSw; (try dsimp only at hSw); go_simp; (try with_reducible rfl); (try (first | (rw [if_pos (by omega)]; (try go_simp); (try with_reducible rfl)) | (rw [if_neg (by omega)]; (try go_simp); (try with_reducible rfl)))))
      try simp only [Act.put, zA, zB, zC]
      refine wpAnyR_takeQ (i := 3) (v := ?_) (some 19) rfl rfl (by kernel_rfl) (by kernel_rfl) (by kernel_rfl) (by kernel_rfl) (fun _ _ _ h => h) (Or.inl ⟨by rfl, ?_⟩) ?_
      rotate_left
      focus (intro wS hSw; (try dsimp only at hSw); go_simp; (try with_reducible rfl); (try (first | (rw [if_pos (by omega)]; (try go_simp); (try with_reducible rfl)) | (rw [if_neg (by omega)]; (try go_simp); (try with_reducible rfl)))))
      try simp only [Act.put, zA, zB, zC]
      refine wpAnyR_take (i := 4) (v := ?_) [5, 6, 7] (some 20) rfl rfl (by kernel_rfl) (by kernel_rfl) (by kernel_rfl) (by kernel_rfl) (by kernel_rfl) (by kernel_rfl) (by kernel_rfl) (fun _ _ _ h => h) (Or.inl ⟨by rfl, ?_⟩) hS ?_
      rotate_left
      focus (intro wS hSw; (try dsimp only at hSw); go_simp; (try with_reducible rfl); (try (first | (rw [if_pos (by omega)]; (try go_simp); (try with_reducible rfl)) | (rw [if_neg (by omega)]; (try go_simp); (try with_reducible rfl)))))
      try simp only [Act.put, zA, zB, zC]
      refine wpAnyR_takeQ (i := 5) (v := ?_) (some 21) rfl rfl (by kernel_rfl) (by kernel_rfl) (by kernel_rfl) (by kernel_rfl) (fun _ _ _ h => h) (Or.inl ⟨by rfl, ?_⟩) ?_
      rotate_left
      focus (intro wS hSw; (try dsimp only at hSw); go_simp; (try with_reducible rfl); (try (first | (rw [if_pos (by omega)]; (try go_simp); (try with_reducible rfl)) | (rw [if_neg (by omega)]; (try go_simp); (try with_reducible rfl)))))
      try simp only [Act.put, zA, zB, zC]
      refine wpAnyR_n1 (i := 6) rfl (by kernel_rfl) ?_
      intro K' hK
      rw [if_pos (by rfl)]
      simp only [List.getElem_toArray, List.getElem_cons_succ, List.getElem_cons_zero]
      go_wp2_with fail
      refine (HIX.out _ (Grew.refl w1).drew).mono ?_
      rintro e W ⟨rfl, g2⟩
      have g2' : Grew w1 W := (Grew.refl w1).drew.trans g2
      go_wp2_with fail
      refine hK.out _ _ (.inr (fun h => by
        simp only [g2'.cellEq _ _ hxo, g2'.cellEq _ _ hgr]
        exact hS)) ?_
      clear hK hS
      refine wpAnyR_takeQ (i := 7) (v := ?_) (some 7) rfl rfl (by kernel_rfl) (by kernel_rfl) (by kernel_rfl) (by kernel_rfl) (fun _ _ _ h => h) (Or.inl ⟨by rfl, ?_⟩) ?_
      rotate_left
      focus (intro wS hSw; (try dsimp only at hSw); go_simp; (try with_reducible rfl); (try (first | (rw [if_pos (by omega)]; (try go_simp); (try with_reducible rfl)) | (rw [if_neg (by omega)]; (try go_simp); (try with_reducible rfl)))))
      try simp only [Act.put, zA, zB, zC]
      refine wpAnyR_done (by kernel_rfl) ?_ _
      have hk' : k < (T.labels).length := by simpa using hk
      have hk2 : (T.labels)[k]'hk' = T.labels[k] := by first | exact HLK.out | rfl
      have ht3 := HTAB.out.hold g2'
      have z0 : W.cell? ⟨g, k * 5, none⟩ = some (.int .i64 T.labels[k].id) := by rw [← hk2]; exact ht3.row0 hk'
      have z1 : W.cell? ⟨g, k * 5 + 1, none⟩ = some (.int .i64 T.labels[k].unit) := by rw [← hk2]; exact ht3.row1 hk'
      have zf1 := ht3.own.frozen (k * 5 + 1)
      have hg3 := ht3.own.block_lt.2
      obtain ⟨ys4, ht4⟩ := ht3.drew.unit_ hk' 0 (by omega)
      have hk4 : k < ((T.labels).set k { (T.labels)[k]'hk' with unit := 0 }).length := by simpa using hk
      have hk5 : ((T.labels).set k { (T.labels)[k]'hk' with unit := 0 })[k]'hk4 = { T.labels[k] with unit := 0 } := by rw [List.getElem_set_self, hk2]
      have HZ0 := Lib.hid (show (World.setCell W.drew ⟨g, k * 5 + 1, none⟩ (.int .i64 0)).cell? ⟨g, k * 5, none⟩ = some (.int .i64 T.labels[k].id) from by have := ht4.row0 hk4; rwa [hk5] at this)
      have z3 : (World.setCell W.drew ⟨g, k * 5 + 1, none⟩ (.int .i64 0)).cell? ⟨g, k * 5 + 3, none⟩ = some (.string T.labels[k].note) := by have := ht4.row3 hk4; rwa [hk5] at this
      have y3 : W.cell? ⟨g, k * 5 + 3, none⟩ = some (.string T.labels[k].note) := by rw [← hk2]; exact ht3.row3 hk'
      have zf3 := ht3.own.frozen (k * 5 + 3)
      obtain ⟨ys5, ht5⟩ := ht4.note_ hk4 note hns
      have HT5 := Lib.hid (show ∃ ys, TabO _ base (.slice (some ⟨g, 0, none⟩) T.labels.length cap) ys ((T.labels).set k { T.labels[k] with unit := 0, note := note }) from ⟨ys5, by rw [hk5, List.set_set] at ht5; exact ht5⟩)
      have HTU := Lib.hid (((g2'.turned (fun x => x = g)).drew.trans (set_turned _ g (k * 5 + 1) (.int .i64 0))).trans (set_turned _ g (k * 5 + 3) (.string note)))
      have HB3 := Lib.hid (HBN.out.grew g2')
      have hgn3 := HB3.out.lt
      have b3 := HB3.out.cell 0
      clear ht3 ht4 ht5 hk5
      clear y0 y1 n0 r0 g2 g2'
      go_wp2_with fail
      refine wp_region_R [8] (fun w' : World => w'.cell? ⟨gn, 0, none⟩ = some (.string note) ∧ w'.cell? ⟨g, k * 5, none⟩ = some (.int .i64 T.labels[k].id)) (by kernel_rfl) ?_
      have hS : (fun w' : World => w'.cell? ⟨gn, 0, none⟩ = some (.string note) ∧ w'.cell? ⟨g, k * 5, none⟩ = some (.int .i64 T.labels[k].id)) (World.drew _) := ⟨HB3.out.drew.cell 0, z0⟩
      refine wpAnyR_takeQ (i := 0) (v := ?_) (some 32) rfl rfl (by kernel_rfl) (by kernel_rfl) (by kernel_rfl) (by kernel_rfl) (fun _ _ _ h => h) (Or.inl ⟨by rfl, ?_⟩) ?_
      rotate_left
      focus (intro wS hSw; (try dsimp only at hSw); go_simp; (try with_reducible rfl); (try (first | (rw [if_pos (by omega)]; (try go_simp); (try with_reducible rfl)) | (rw [if_neg (by omega)]; (try go_simp); (try with_reducible rfl)))))
      try simp only [Act.put, zA, zB, zC]
      refine wpAnyR_takeQ (i := 1) (v := ?_) (some 33) rfl rfl (by kernel_rfl) (by kernel_rfl) (by kernel_rfl) (by kernel_rfl) (fun _ _ _ h => h) (Or.inl ⟨by rfl, ?_⟩) ?_
      rotate_left
      focus (intro wS hSw; (try dsimp only at hSw); go_simp; (try with_reducible rfl); (try (first | (rw [if_pos (by omega)]; (try go_simp); (try with_reducible rfl)) | (rw [if_neg (by omega)]; (try go_simp); (try with_reducible rfl)))))
      try simp only [Act.put, zA, zB, zC]
      refine wpAnyR_take (i := 2) (v := ?_) [6, 7, 8] (some 34) rfl rfl (by kernel_rfl) (by kernel_rfl) (by kernel_rfl) (by kernel_rfl) (by kernel_rfl) (by kernel_rfl) (by kernel_rfl) (fun _ _ _ h => h) (Or.inl ⟨by rfl, ?_⟩) hS ?_
      rotate_left
      focus (intro wS hSw; (try dsimp only at hSw); go_simp; (try with_reducible rfl); (try (first | (rw [if_pos (by omega)]; (try go_simp); (try with_reducible rfl)) | (rw [if_neg (by omega)]; (try go_simp); (try with_reducible rfl)))))
      try simp only [Act.put, zA, zB, zC]
      refine wpAnyR_take (i := 3) (v := ?_) [4, 5, 6, 7, 8] (some 35) rfl rfl (by kernel_rfl) (by kernel_rfl) (by kernel_rfl) (by kernel_rfl) (by kernel_rfl) (by kernel_rfl) (by kernel_rfl) (fun _ _ _ h => h) (Or.inl ⟨by rfl, ?_⟩) hS ?_
      rotate_left
      focus (intro wS hSw; (try dsimp only at hSw); go_simp; (try with_reducible rfl); (try (first | (rw [if_pos (by omega)]; (try go_simp); (try with_reducible rfl)) | (rw [if_neg (by omega)]; (try go_simp); (try with_reducible rfl)))))
      try simp only [Act.put, zA, zB, zC]
      refine wpAnyR_takeQ (i := 4) (v := ?_) (some 36) rfl rfl (by kernel_rfl) (by kernel_rfl) (by kernel_rfl) (by kernel_rfl) (fun _ _ _ h => h) (Or.inl ⟨by rfl, ?_⟩) ?_
      rotate_left
      focus (intro wS hSw; (try dsimp only at hSw); go_simp; (try with_reducible rfl); (try (first | (rw [if_pos (by omega)]; (try go_simp); (try with_reducible rfl)) | (rw [if_neg (by omega)]; (try go_simp); (try with_reducible rfl)))))
      try simp only [Act.put, zA, zB, zC]
      refine wpAnyR_n1 (i := 5) rfl (by kernel_rfl) ?_
      intro K' hK
      rw [if_pos (by rfl)]
      simp only [List.getElem_toArray, List.getElem_cons_succ, List.getElem_cons_zero]
      go_wp2_with fail
      refine hK.out _ _ (.inr (fun h => ⟨(HB3.out.drew.far (p := ⟨g, k * 5 + 1, none⟩) hgng (.int .i64 0)).cell 0, HZ0.out⟩)) ?_
      clear hK hS
      have hS : (fun w' : World => w'.cell? ⟨gn, 0, none⟩ = some (.string note) ∧ w'.cell? ⟨g, k * 5, none⟩ = some (.int .i64 T.labels[k].id)) (W.setCell ⟨g, k * 5 + 1, none⟩ (.int .i64 0)).drew := ⟨(HB3.out.drew.far (p := ⟨g, k * 5 + 1, none⟩) hgng (.int .i64 0)).cell 0, HZ0.out⟩
      refine wpAnyR_take (i := 6) (v := ?_) [7, 8] (some 37) rfl rfl (by kernel_rfl) (by kernel_rfl) (by kernel_rfl) (by kernel_rfl) (by kernel_rfl) (by kernel_rfl) (by kernel_rfl) (fun _ _ _ h => h) (Or.inl ⟨by rfl, ?_⟩) hS ?_
      rotate_left
      focus (intro wS hSw; (try dsimp only at hSw); go_simp; (try with_reducible rfl); (try (first | (rw [if_pos (by omega)]; (try go_simp); (try with_reducible rfl)) | (rw [if_neg (by omega)]; (try go_simp); (try with_reducible rfl)))))
      try simp only [Act.put, zA, zB, zC]
      refine wpAnyR_takeQ (i := 7) (v := ?_) (some 38) rfl rfl (by kernel_rfl) (by kernel_rfl) (by kernel_rfl) (by kernel_rfl) (fun _ _ _ h => h) (Or.inl ⟨by rfl, ?_⟩) ?_
      rotate_left
      focus (intro wS hSw; (try dsimp only at hSw); go_simp; (try with_reducible rfl); (try (first | (rw [if_pos (by omega)]; (try go_simp); (try with_reducible rfl)) | (rw [if_neg (by omega)]; (try go_simp); (try with_reducible rfl)))))
      try simp only [Act.put, zA, zB, zC]
      refine wpAnyR_n1 (i := 8) rfl (by kernel_rfl) ?_
      intro K' hK
      rw [if_pos (by rfl)]
      simp only [List.getElem_toArray, List.getElem_cons_succ, List.getElem_cons_zero]
      go_wp2_with fail
      refine hK.out _ _ (.inl rfl) ?_
      clear hK
      refine wpAnyR_done (by kernel_rfl) ?_ _
      go_wp2_with fail
      go_ret
      rw [HE.out]
      exact ⟨rfl, HT5.out, HTU.out⟩
end
end Go.Proofs.Ytnlaogneceanoaa
namespace Go.Proofs.Ytnlaogneceanoaa
set_option linter.unusedVariables false
set_option linter.unusedSimpArgs false
set_option linter.unusedSectionVars false
open Go.RowKit
theorem OwnL.len {w : World} {base e sz g n cap : Nat} {rows : List (List Value)} (h : OwnL w base e sz (.slice (some ⟨g, 0, none⟩) n cap) rows) : rows.length = n ∧ n ≤ cap ∧ cap ≤ 9223372036854775807 := by
  rcases h.2.2 with ⟨h0, _⟩ | ⟨g', cap', cur, hv, _, _, hn, hm, _⟩
  · cases h0
  · injection hv with _ h1 h2
    unfold maxLen at hm
    exact ⟨h1.symm, by rw [h1, h2]; exact hn, by rw [h2]; simpa using hm⟩
theorem OwnL.block {w : World} {base e sz g n cap : Nat} {rows : List (List Value)} (h : OwnL w base e sz (.slice (some ⟨g, 0, none⟩) n cap) rows) :
    ∃ cur, base ≤ g ∧ w.heap[g]? = some (.cells cur e (0, 0)) ∧ cur.size = cap * sz ∧ cur.toList.take (n * sz) = rows.flatten := by
  have hlen := h.len.1
  rcases h.2.2 with ⟨h0, _⟩ | ⟨g', cap', cur, hv, hb, hh, hn, hm, hs, ht⟩
  · cases h0
  · injection hv with h0 h1 h2
    injection h0 with h0
    injection h0 with h0 _ _
    subst h0
    rw [hlen] at ht
    exact ⟨cur, hb, hh, by rw [hs, h2], ht⟩
section
variable {P : Program}
end
end Go.Proofs.Ytnlaogneceanoaa
