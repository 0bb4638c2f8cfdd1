/- Chapter 8: what Confirm does with a label. A slice of the call's own, cut to its first elements; 'clear' on the others. Chapter 8: change, and the changes of one label. -/
import Derived.Laws.CopyRow
import Derived.Test.YtnlaogneceanoaaGreatCuA
import Derived.Test.YtnlaogneceanoaaGreatCuI
namespace Go.Proofs.YtnlaogneceanoaaGreat
set_option linter.unusedVariables false
set_option linter.unusedSimpArgs false
set_option linter.unusedSectionVars false
open Go.RowKit
attribute [local go_sem ↓] Go.wp_at_zero Go.wp_at_succ
theorem TabO.drew {w : World} {base : Nat} {v : Value} {ys : List LabE} {ls : List Lab} (h : TabO w base v ys ls) : TabO w.drew base v ys ls := h.hold (Grew.refl w).drew
section
variable (w w1 : World) (base g cap xo : Nat) (ys : List LabE) (T : Tab) (k : Nat) (hk : k < T.labels.length) (h : OutAt w w1 base g cap xo ys T)
include h
set_option maxRecDepth 100000 in
set_option maxHeartbeats 8000000 in
theorem confirm1_any (hs : SmallT T) (hn0 : T.name.size ≤ 9223372036854775807) (ht0 : -9223372036854775808 ≤ T.tracks) (ht1 : T.tracks ≤ 9223372036854775807) (note : ByteArray) (hns : note.size ≤ 9223372036854775807) (id unit : Int) (gn gr : Nat) (hbn : Blk w gn 9 #[.string note]) (hbr : Blk w gr 26 #[.int .i64 id, .int .i64 unit]) :
    Calls Tryz.prog 91 #[.pointer (some ⟨g, k * 5, none⟩), .pointer (some ⟨xo, 0, none⟩), .pointer (some ⟨gn, 0, none⟩), .pointer (some ⟨gr, 0, none⟩)] w1 (ChgR w1 base g cap T.labels.length (chCon T id note k T.labels[k])) := by
  have hbn1 := hbn.grew h.grew
  have hbr1 := hbr.grew h.grew
  have hg1 := h.tab.own.block_lt.2
  have hxo := h.blk.lt
  have hgn := hbn1.lt
  have hgr := hbr1.lt
  have hne := h.ne
  have hgng : ¬ gn = g := by have := h.hg; have := hbn.lt; omega
  have hgrg : ¬ gr = g := by have := h.hg; have := hbr.lt; omega
  have y0 : w1.cell? ⟨g, k * 5, none⟩ = some (.int .i64 T.labels[k].id) := h.tab.row0 hk
  have y1 : w1.cell? ⟨g, k * 5 + 1, none⟩ = some (.int .i64 T.labels[k].unit) := h.tab.row1 hk
  have n0 := hbn1.cell 0
  have r0 := hbr1.cell 0
  have HTAB := Lib.hid h.tab
  have HBO := Lib.hid h.blk
  have HBN := Lib.hid hbn1
  have HBR := Lib.hid hbr1
  have HC := Lib.hid (show chCon T id note k T.labels[k] = if T.labels[k].unit = 0 then (T.labels, 9) else if 400 < note.size then (T.labels, 1)
  else ((if 0 ≤ idxT T id 0 then T.labels.set (idxT T id 0).toNat labZ else T.labels).set k { T.labels[k] with unit := 0, note := note }, 0) from rfl)
  have hxs := h.blk
  clear h hbn hbr hbn1 hbr1
  cases hu : (T.labels[k].unit == 0) with
  | true =>
    have HE := Lib.hid (HC.out.trans (if_pos (by simpa using hu)))
    clear hxs
    go_enter Tryz.func91, Tryz.ntmps91
    go_wp2_with fail
    go_ret
    rw [HE.out]
    exact ⟨rfl, ⟨_, HTAB.out⟩, by (repeat' first | (with_reducible exact Turned.refl _ _) | (with_reducible assumption) | (with_reducible refine Turned.alloc ?_ _) | (with_reducible refine Turned.drew ?_) | (with_reducible refine Turned.drewN ?_ _) | (with_reducible refine Turned.setRow ?_ (by first | (simp; done) | (simp; omega) | omega) _) | (with_reducible refine Turned.setCell ?_ (by first | (simp; done) | (simp; omega) | omega) _) | ((with_reducible apply Turned.andGrew); rotate_left; (with_reducible assumption)) | ((with_reducible apply Turned.trans); rotate_left; (with_reducible assumption)) | fail)⟩
  | false =>
    have hu' : T.labels[k].unit ≠ 0 := by simpa using hu
    by_cases hn : 400 < note.size
    · have HE := Lib.hid (HC.out.trans (by rw [if_neg hu', if_pos hn]))
      have hni : (note.size : Int) > 400 := by omega
      clear hxs
      go_enter Tryz.func91, Tryz.ntmps91
      go_wp2_with fail
      go_ret
      rw [HE.out]
      exact ⟨rfl, ⟨_, HTAB.out⟩, by (repeat' first | (with_reducible exact Turned.refl _ _) | (with_reducible assumption) | (with_reducible refine Turned.alloc ?_ _) | (with_reducible refine Turned.drew ?_) | (with_reducible refine Turned.drewN ?_ _) | (with_reducible refine Turned.setRow ?_ (by first | (simp; done) | (simp; omega) | omega) _) | (with_reducible refine Turned.setCell ?_ (by first | (simp; done) | (simp; omega) | omega) _) | ((with_reducible apply Turned.andGrew); rotate_left; (with_reducible assumption)) | ((with_reducible apply Turned.trans); rotate_left; (with_reducible assumption)) | fail)⟩
    have hni : ¬ (note.size : Int) > 400 := by omega
    obtain ⟨ix, hix⟩ : ∃ ix, idxT T id 0 = ix := ⟨_, rfl⟩
    have hTA := HTAB.out.tabAt T.name T.tracks hn0 ht0 ht1
    have HIX := Lib.hid (fun w2 (g2 : Grew w1 w2) => cindex_any _ _ _ T id 0 w2 (hTA.hold g2) hs T.labels.length rfl ix hix)
    have hS : (fun w' : World => w'.cell? ⟨xo, 0, none⟩ = some (.string T.name) ∧ w'.cell? ⟨xo, 1, none⟩ = some (.int .i64 T.tracks) ∧ w'.cell? ⟨xo, 2, none⟩ = some (.slice (some ⟨g, 0, none⟩) T.labels.length cap) ∧ w'.cell? ⟨gr, 0, none⟩ = some (.int .i64 id)) w1.drew := ⟨hxs.drew.cell 0, hxs.drew.cell 1, hxs.drew.cell 2, r0⟩
    rcases idxP_cases (hitL id 0) T.labels with ⟨j, hj, hj1, hj2, _⟩ | ⟨hj1, _⟩
    · have hij : ix = (j : Int) := hix.symm.trans hj1
      obtain ⟨_, _, hj3⟩ := (hitL_iff _ _ _).1 hj2
      have hjk : j ≠ k := by rintro rfl; exact hu' hj3
      subst hij
      have HE := Lib.hid (HC.out.trans (by rw [if_neg hu', if_neg hn, if_pos (by rw [hix]; omega), hix, Int.toNat_natCast]))
      have hjn : (j : Int) < (T.labels.length : Int) := by omega
      have HLK := Lib.hid (show (T.labels.set j labZ)[k]'(by simpa using hk) = T.labels[k] from List.getElem_set_ne hjk _)
      clear hix hTA hj1 hj2 hxs hu'
      go_enter Tryz.func91, Tryz.ntmps91
      go_wp2_with fail
      refine wp_region_R [] (fun w' : World => w'.cell? ⟨xo, 0, none⟩ = some (.string T.name) ∧ w'.cell? ⟨xo, 1, none⟩ = some (.int .i64 T.tracks) ∧ w'.cell? ⟨xo, 2, none⟩ = some (.slice (some ⟨g, 0, none⟩) T.labels.length cap) ∧ w'.cell? ⟨gr, 0, none⟩ = some (.int .i64 id)) (by kernel_rfl) ?_
      refine wpAnyR_takeQ (i := 0) (v := ?_) (some 16) rfl rfl (by kernel_rfl) (by kernel_rfl) (by kernel_rfl) (by kernel_rfl) (fun _ _ _ h => h) (Or.inl ⟨by rfl, ?_⟩) ?_
      rotate_left
      focus (intro wS hSw; (try dsimp only at hSw); go_simp; (try with_reducible rfl); (try (first | (rw [if_pos (by omega)]; (try go_simp); (try with_reducible rfl)) | (rw [if_neg (by omega)]; (try go_simp); (try with_reducible rfl)))))
      try simp only [Act.put, zA, zB, zC]
      refine wpAnyR_take (i := 1) (v := ?_) [2, 6, 7] (some 17) rfl rfl (by kernel_rfl) (by kernel_rfl) (by kernel_rfl) (by kernel_rfl) (by kernel_rfl) (by kernel_rfl) (by kernel_rfl) (fun _ _ _ h => h) (Or.inl ⟨by rfl, ?_⟩) hS ?_
      rotate_left
      focus (intro wS hSw; (try dsimp only at hSw); go_simp; (try with_reducible rfl); (try (first | (rw [if_pos (by omega)]; (try go_simp); (try with_reducible rfl)) | (rw [if_neg (by omega)]; (try go_simp); (try with_reducible rfl)))))
      try simp only [Act.put, zA, zB, zC]
      refine wpAnyR_take (i := 2) (v := ?_) [6, 7] (some 18) rfl rfl (by kernel_rfl) (by kernel_rfl) (by kernel_rfl) (by kernel_rfl) (by kernel_rfl) (by kernel_rfl) (by kernel_rfl) (fun _ _ _ h => h) (Or.inl ⟨by rfl, ?_⟩) hS ?_
      rotate_left
      focus (intro wS hSw; (try dsimp only at hSw); go_simp; (try with_reducible rfl); (try (first | (rw [if_pos (by omega)]; (try go_simp); (try with_reducible rfl)) | (rw [if_neg (by omega)]; (try go_simp); (try with_reducible rfl)))))
      try simp only [Act.put, zA, zB, zC]
      refine wpAnyR_takeQ (i := 3) (v := ?_) (some 19) rfl rfl (by kernel_rfl) (by kernel_rfl) (by kernel_rfl) (by kernel_rfl) (fun _ _ _ h => h) (Or.inl ⟨by rfl, ?_⟩) ?_
      rotate_left
      focus (intro wS hSw; (try dsimp only at hSw); go_simp; (try with_reducible rfl); (try (first | (rw [if_pos (by omega)]; (try go_simp); (try with_reducible rfl)) | (rw [if_neg (by omega)]; (try go_simp); (try with_reducible rfl)))))
      try simp only [Act.put, zA, zB, zC]
      refine wpAnyR_take (i := 4) (v := ?_) [5, 6, 7] (some 20) rfl rfl (by kernel_rfl) (by kernel_rfl) (by kernel_rfl) (by kernel_rfl) (by kernel_rfl) (by kernel_rfl) (by kernel_rfl) (fun _ _ _ h => h) (Or.inl ⟨by rfl, ?_⟩) hS ?_
      rotate_left
      focus (intro wS hSw; (try dsimp only at hSw); go_simp; (try with_reducible rfl); (try (first | (rw [if_pos (by omega)]; (try go_simp); (try with_reducible rfl)) | (rw [if_neg (by omega)]; (try go_simp); (try with_reducible rfl)))))
      try simp only [Act.put, zA, zB, zC]
      refine wpAnyR_takeQ (i := 5) (v := ?_) (some 21) rfl rfl (by kernel_rfl) (by kernel_rfl) (by kernel_rfl) (by kernel_rfl) (fun _ _ _ h => h) (Or.inl ⟨by rfl, ?_⟩) ?_
      rotate_left
      focus (intro wS hSw; (try dsimp only at hSw); go_simp; (try with_reducible rfl); (try (first | (rw [if_pos (by omega)]; (try go_simp); (try with_reducible rfl)) | (rw [if_neg (by omega)]; (try go_simp); (try with_reducible rfl)))))
      try simp only [Act.put, zA, zB, zC]
      refine wpAnyR_n1 (i := 6) rfl (by kernel_rfl) ?_
      intro K' hK
      rw [if_pos (by rfl)]
      simp only [List.getElem_toArray, List.getElem_cons_succ, List.getElem_cons_zero]
      go_wp2_with fail
      refine (HIX.out _ (Grew.refl w1).drew).mono ?_
      rintro e w2 ⟨rfl, g2⟩
      have g2' : Grew w1 w2 := (Grew.refl w1).drew.trans g2
      go_wp2_with fail
      refine hK.out _ _ (.inr (fun h => by
        simp only [g2'.cellEq _ _ hxo, g2'.cellEq _ _ hgr]
        exact hS)) ?_
      clear hK hS
      refine wpAnyR_takeQ (i := 7) (v := ?_) (some 7) rfl rfl (by kernel_rfl) (by kernel_rfl) (by kernel_rfl) (by kernel_rfl) (fun _ _ _ h => h) (Or.inl ⟨by rfl, ?_⟩) ?_
      rotate_left
      focus (intro wS hSw; (try dsimp only at hSw); go_simp; (try with_reducible rfl); (try (first | (rw [if_pos (by omega)]; (try go_simp); (try with_reducible rfl)) | (rw [if_neg (by omega)]; (try go_simp); (try with_reducible rfl)))))
      try simp only [Act.put, zA, zB, zC]
      refine wpAnyR_done (by kernel_rfl) ?_ _
      have o2 := HBO.out.grew g2'
      have u0 := o2.cell 0
      have u1 := o2.cell 1
      have u2 := o2.cell 2
      have hxl2 := o2.lt
      have ht2 := HTAB.out.hold g2'
      obtain ⟨B2, d2, hrow2, _, _, _⟩ := ht2.row hj
      have a0 : w2.cell? ⟨g, j * 5, none⟩ = some (.int .i64 T.labels[j].id) := ht2.own.cell0 hrow2 rfl
      have a1 : w2.cell? ⟨g, j * 5 + 1, none⟩ = some (.int .i64 T.labels[j].unit) := ht2.own.cell hrow2 (i := 1) rfl
      have a2 : w2.cell? ⟨g, j * 5 + 2, none⟩ = some (.string T.labels[j].name) := ht2.own.cell hrow2 (i := 2) rfl
      have a3 : w2.cell? ⟨g, j * 5 + 3, none⟩ = some (.string T.labels[j].note) := ht2.own.cell hrow2 (i := 3) rfl
      have a4 : w2.cell? ⟨g, j * 5 + 4, none⟩ = some (.slice B2 T.labels[j].ext.length d2) := ht2.own.cell hrow2 (i := 4) rfl
      have af0 := ht2.own.frozen (j * 5)
      have af1 := ht2.own.frozen (j * 5 + 1)
      have af2 := ht2.own.frozen (j * 5 + 2)
      have af3 := ht2.own.frozen (j * 5 + 3)
      have af4 := ht2.own.frozen (j * 5 + 4)
      have HT3 := Lib.hid (ht2.set5 hj ⟨none, 0, labZ⟩ (LabAt.zero _) (fun h0 => absurd h0 (by decide)))
      have HTU3 := Lib.hid ((g2'.turned (fun x => x = g)).trans (set5_turned w2 g (j * 5) (.int .i64 0) (.int .i64 0) (.string ⟨#[]⟩) (.string ⟨#[]⟩) (.slice none 0 0)))
      have HB2 := Lib.hid (HBN.out.grew g2')
      clear ht2 hrow2 o2
      go_wp2_with fail
      obtain ⟨W, hW⟩ : ∃ W, W = ((((w2.setCell ⟨g, j * 5, none⟩ (.int .i64 0)).setCell ⟨g, j * 5 + 1, none⟩ (.int .i64 0)).setCell ⟨g, j * 5 + 2, none⟩ (.string ⟨#[]⟩)).setCell ⟨g, j * 5 + 3, none⟩ (.string ⟨#[]⟩)).setCell ⟨g, j * 5 + 4, none⟩ (.slice none 0 0) := ⟨_, rfl⟩
      rw [← hW]
      obtain ⟨ys3, HT3'⟩ : ∃ ys3, TabO W base (.slice (some ⟨g, 0, none⟩) T.labels.length cap) ys3 (T.labels.set j labZ) := ⟨_, by rw [hW]; exact HT3.out⟩
      have HTW : Turned (fun x => x = g) w1 W := by rw [hW]; exact HTU3.out
      have HBW : Blk W gn 9 #[.string note] := HBN.out.turned HTW hgng
      have hk' : k < (T.labels.set j labZ).length := by simpa using hk
      have hk2 : (T.labels.set j labZ)[k]'hk' = T.labels[k] := by first | exact HLK.out | rfl
      have ht3 := HT3'
      have z0 : W.cell? ⟨g, k * 5, none⟩ = some (.int .i64 T.labels[k].id) := by rw [← hk2]; exact ht3.row0 hk'
      have z1 : W.cell? ⟨g, k * 5 + 1, none⟩ = some (.int .i64 T.labels[k].unit) := by rw [← hk2]; exact ht3.row1 hk'
      have zf1 := ht3.own.frozen (k * 5 + 1)
      have hg3 := ht3.own.block_lt.2
      obtain ⟨ys4, ht4⟩ := ht3.drew.unit_ hk' 0 (by omega)
      have hk4 : k < ((T.labels.set j labZ).set k { (T.labels.set j labZ)[k]'hk' with unit := 0 }).length := by simpa using hk
      have hk5 : ((T.labels.set j labZ).set k { (T.labels.set j labZ)[k]'hk' with unit := 0 })[k]'hk4 = { T.labels[k] with unit := 0 } := by rw [List.getElem_set_self, hk2]
      have HZ0 := Lib.hid (show (World.setCell W.drew ⟨g, k * 5 + 1, none⟩ (.int .i64 0)).cell? ⟨g, k * 5, none⟩ = some (.int .i64 T.labels[k].id) from by have := ht4.row0 hk4; rwa [hk5] at this)
      have z3 : (World.setCell W.drew ⟨g, k * 5 + 1, none⟩ (.int .i64 0)).cell? ⟨g, k * 5 + 3, none⟩ = some (.string T.labels[k].note) := by have := ht4.row3 hk4; rwa [hk5] at this
      have y3 : W.cell? ⟨g, k * 5 + 3, none⟩ = some (.string T.labels[k].note) := by rw [← hk2]; exact ht3.row3 hk'
      have zf3 := ht3.own.frozen (k * 5 + 3)
      obtain ⟨ys5, ht5⟩ := ht4.note_ hk4 note hns
      have HT5 := Lib.hid (show ∃ ys, TabO _ base (.slice (some ⟨g, 0, none⟩) T.labels.length cap) ys ((T.labels.set j labZ).set k { T.labels[k] with unit := 0, note := note }) from ⟨ys5, by rw [hk5, List.set_set] at ht5; exact ht5⟩)
      have HTU := Lib.hid (((HTW).drew.trans (set_turned _ g (k * 5 + 1) (.int .i64 0))).trans (set_turned _ g (k * 5 + 3) (.string note)))
      have HB3 := Lib.hid (HBW)
      have hgn3 := HB3.out.lt
      have b3 := HB3.out.cell 0
      clear ht3 ht4 ht5 hk5
      clear a0 a1 a2 a3 a4 af0 af1 af2 af3 af4 hW HT3' HTW HBW u0 u1 u2 y0 y1 n0 r0 HT3 HTU3 HB2
      refine wp_region_R [8] (fun w' : World => w'.cell? ⟨gn, 0, none⟩ = some (.string note) ∧ w'.cell? ⟨g, k * 5, none⟩ = some (.int .i64 T.labels[k].id)) (by kernel_rfl) ?_
      have hS : (fun w' : World => w'.cell? ⟨gn, 0, none⟩ = some (.string note) ∧ w'.cell? ⟨g, k * 5, none⟩ = some (.int .i64 T.labels[k].id)) (World.drew _) := ⟨HB3.out.drew.cell 0, z0⟩
      refine wpAnyR_takeQ (i := 0) (v := ?_) (some 32) rfl rfl (by kernel_rfl) (by kernel_rfl) (by kernel_rfl) (by kernel_rfl) (fun _ _ _ h => h) (Or.inl ⟨by rfl, ?_⟩) ?_
      rotate_left
      focus (intro wS hSw; (try dsimp only at hSw); go_simp; (try with_reducible rfl); (try (first | (rw [if_pos (by omega)]; (try go_simp); (try with_reducible rfl)) | (rw [if_neg (by omega)]; (try go_simp); (try with_reducible rfl)))))
      try simp only [Act.put, zA, zB, zC]
      refine wpAnyR_takeQ (i := 1) (v := ?_) (some 33) rfl rfl (by kernel_rfl) (by kernel_rfl) (by kernel_rfl) (by kernel_rfl) (fun _ _ _ h => h) (Or.inl ⟨by rfl, ?_⟩) ?_
      rotate_left
      focus (intro wS hSw; (try dsimp only at hSw); go_simp; (try with_reducible rfl); (try (first | (rw [if_pos (by omega)]; (try go_simp); (try with_reducible rfl)) | (rw [if_neg (by omega)]; (try go_simp); (try with_reducible rfl)))))
      try simp only [Act.put, zA, zB, zC]
      refine wpAnyR_take (i := 2) (v := ?_) [6, 7, 8] (some 34) rfl rfl (by kernel_rfl) (by kernel_rfl) (by kernel_rfl) (by kernel_rfl) (by kernel_rfl) (by kernel_rfl) (by kernel_rfl) (fun _ _ _ h => h) (Or.inl ⟨by rfl, ?_⟩) hS ?_
      rotate_left
      focus (intro wS hSw; (try dsimp only at hSw); go_simp; (try with_reducible rfl); (try (first | (rw [if_pos (by omega)]; (try go_simp); (try with_reducible rfl)) | (rw [if_neg (by omega)]; (try go_simp); (try with_reducible rfl)))))
      try simp only [Act.put, zA, zB, zC]
      refine wpAnyR_take (i := 3) (v := ?_) [4, 5, 6, 7, 8] (some 35) rfl rfl (by kernel_rfl) (by kernel_rfl) (by kernel_rfl) (by kernel_rfl) (by kernel_rfl) (by kernel_rfl) (by kernel_rfl) (fun _ _ _ h => h) (Or.inl ⟨by rfl, ?_⟩) hS ?_
      rotate_left
      focus (intro wS hSw; (try dsimp only at hSw); go_simp; (try with_reducible rfl); (try (first | (rw [if_pos (by omega)]; (try go_simp); (try with_reducible rfl)) | (rw [if_neg (by omega)]; (try go_simp); (try with_reducible rfl)))))
      try simp only [Act.put, zA, zB, zC]
      refine wpAnyR_takeQ (i := 4) (v := ?_) (some 36) rfl rfl (by kernel_rfl) (by kernel_rfl) (by kernel_rfl) (by kernel_rfl) (fun _ _ _ h => h) (Or.inl ⟨by rfl, ?_⟩) ?_
      rotate_left
      focus (intro wS hSw; (try dsimp only at hSw); go_simp; (try with_reducible rfl); (try (first | (rw [if_pos (by omega)]; (try go_simp); (try with_reducible rfl)) | (rw [if_neg (by omega)]; (try go_simp); (try with_reducible rfl)))))
      try simp only [Act.put, zA, zB, zC]
      refine wpAnyR_n1 (i := 5) rfl (by kernel_rfl) ?_
      intro K' hK
      rw [if_pos (by rfl)]
      simp only [List.getElem_toArray, List.getElem_cons_succ, List.getElem_cons_zero]
      go_wp2_with fail
      refine hK.out _ _ (.inr (fun h => ⟨(HB3.out.drew.far (p := ⟨g, k * 5 + 1, none⟩) hgng (.int .i64 0)).cell 0, HZ0.out⟩)) ?_
      clear hK hS
      have hS : (fun w' : World => w'.cell? ⟨gn, 0, none⟩ = some (.string note) ∧ w'.cell? ⟨g, k * 5, none⟩ = some (.int .i64 T.labels[k].id)) (W.setCell ⟨g, k * 5 + 1, none⟩ (.int .i64 0)).drew := ⟨(HB3.out.drew.far (p := ⟨g, k * 5 + 1, none⟩) hgng (.int .i64 0)).cell 0, HZ0.out⟩
      refine wpAnyR_take (i := 6) (v := ?_) [7, 8] (some 37) rfl rfl (by kernel_rfl) (by kernel_rfl) (by kernel_rfl) (by kernel_rfl) (by kernel_rfl) (by kernel_rfl) (by kernel_rfl) (fun _ _ _ h => h) (Or.inl ⟨by rfl, ?_⟩) hS ?_
      rotate_left
      focus (intro wS hSw; (try dsimp only at hSw); go_simp; (try with_reducible rfl); (try (first | (rw [if_pos (by omega)]; (try go_simp); (try with_reducible rfl)) | (rw [if_neg (by omega)]; (try go_simp); (try with_reducible rfl)))))
      try simp only [Act.put, zA, zB, zC]
      refine wpAnyR_takeQ (i := 7) (v := ?_) (some 38) rfl rfl (by kernel_rfl) (by kernel_rfl) (by kernel_rfl) (by kernel_rfl) (fun _ _ _ h => h) (Or.inl ⟨by rfl, ?_⟩) ?_
      rotate_left
      focus (intro wS hSw; (try dsimp only at hSw); go_simp; (try with_reducible rfl); (try (first | (rw [if_pos (by omega)]; (try go_simp); (try with_reducible rfl)) | (rw [if_neg (by omega)]; (try go_simp); (try with_reducible rfl)))))
      try simp only [Act.put, zA, zB, zC]
      refine wpAnyR_n1 (i := 8) rfl (by kernel_rfl) ?_
      intro K' hK
      rw [if_pos (by rfl)]
      simp only [List.getElem_toArray, List.getElem_cons_succ, List.getElem_cons_zero]
      go_wp2_with fail
      refine hK.out _ _ (.inl rfl) ?_
      clear hK
      refine wpAnyR_done (by kernel_rfl) ?_ _
      go_wp2_with fail
      go_ret
      rw [HE.out]
      exact ⟨rfl, HT5.out, HTU.out⟩
    · have hij : ix = -1 := hix.symm.trans hj1
      subst hij
      have HE := Lib.hid (HC.out.trans (by rw [if_neg hu', if_neg hn, if_neg (by rw [hix]; omega)]))
      have HLK := Lib.hid (show (T.labels)[k]'(by simpa using hk) = T.labels[k] from rfl)
      clear hix hTA hj1 hxs hu'
      go_enter Tryz.func91, Tryz.ntmps91
      go_wp2_with fail
      refine wp_region_R [] (fun w' : World => w'.cell? ⟨xo, 0, none⟩ = some (.string T.name) ∧ w'.cell? ⟨xo, 1, none⟩ = some (.int .i64 T.tracks) ∧ w'.cell? ⟨xo, 2, none⟩ = some (.slice (some ⟨g, 0, none⟩) T.labels.length cap) ∧ w'.cell? ⟨gr, 0, none⟩ = some (.int .i64 id)) (by kernel_rfl) ?_
      refine wpAnyR_takeQ (i := 0) (v := ?_) (some 16) rfl rfl (by kernel_rfl) (by kernel_rfl) (by kernel_rfl) (by kernel_rfl) (fun _ _ _ h => h) (Or.inl ⟨by rfl, ?_⟩) ?_
      rotate_left
      focus (intro wS hSw; (try dsimp only at hSw); go_simp; (try with_reducible rfl); (try (first | (rw [if_pos (by omega)]; (try go_simp); (try with_reducible rfl)) | (rw [if_neg (by omega)]; (try go_simp); (try with_reducible rfl)))))
      try simp only [Act.put, zA, zB, zC]
      refine wpAnyR_take (i := 1) (v := ?_) [2, 6, 7] (some 17) rfl rfl (by kernel_rfl) (by kernel_rfl) (by kernel_rfl) (by kernel_rfl) (by kernel_rfl) (by kernel_rfl) (by kernel_rfl) (fun _ _ _ h => h) (Or.inl ⟨by rfl, ?_⟩) hS ?_
      rotate_left
      focus (intro wS hSw; (try dsimp only at hSw); go_simp; (try with_reducible rfl); (try (first | (rw [if_pos (by omega)]; (try go_simp); (try with_reducible rfl)) | (rw [if_neg (by omega)]; (try go_simp); (try with_reducible rfl)))))
      try simp only [Act.put, zA, zB, zC]
      refine wpAnyR_take (i := 2) (v := ?_) [6, 7] (some 18) rfl rfl (by kernel_rfl) (by kernel_rfl) (by kernel_rfl) (by kernel_rfl) (by kernel_rfl) (by kernel_rfl) (by kernel_rfl) (fun _ _ _ h => h) (Or.inl ⟨by rfl, ?_⟩) hS ?_
      rotate_left
      focus (intro wS hSw; (try dsimp only at hSw); go_simp; (try with_reducible rfl); (try (first | (rw [if_pos (by omega)]; (try go_simp); (try with_reducible rfl)) | (rw [if_neg (by omega)]; (try go_simp); (try with_reducible rfl)))))
      try simp only [Act.put, zA, zB, zC]
      refine wpAnyR_takeQ (i := 3) (v := ?_) (some 19) rfl rfl (by kernel_rfl) (by kernel_rfl) (by kernel_rfl) (by kernel_rfl) (fun _ _ _ h => h) (Or.inl ⟨by rfl, ?_⟩) ?_
      rotate_left
      focus (intro wS hSw; (try dsimp only at hSw); go_simp; (try with_reducible rfl); (try (first | (rw [if_pos (by omega)]; (try go_simp); (try with_reducible rfl)) | (rw [if_neg (by omega)]; (try go_simp); (try with_reducible rfl)))))
      try simp only [Act.put, zA, zB, zC]
      refine wpAnyR_take (i := 4) (v := ?_) [5, 6, 7] (some 20) rfl rfl (by kernel_rfl) (by kernel_rfl) (by kernel_rfl) (by kernel_rfl) (by kernel_rfl) (by kernel_rfl) (by kernel_rfl) (fun _ _ _ h => h) (Or.inl ⟨by rfl, ?_⟩) hS ?_
      rotate_left
      focus (intro wS hSw; (try dsimp only at hSw); go_simp; (try with_reducible rfl); (try (first | (rw [if_pos (by omega)]; (try go_simp); (try with_reducible rfl)) | (rw [if_neg (by omega)]; (try go_simp); (try with_reducible rfl)))))
      try simp only [Act.put, zA, zB, zC]
      refine wpAnyR_takeQ (i := 5) (v := ?_) (some 21) rfl rfl (by kernel_rfl) (by kernel_rfl) (by kernel_rfl) (by kernel_rfl) (fun _ _ _ h => h) (Or.inl ⟨by rfl, ?_⟩) ?_
      rotate_left
      focus (intro wS hSw; (try dsimp only at hSw); go_simp; (try with_reducible rfl); (try (first | (rw [if_pos (by omega)]; (try go_simp); (try with_reducible rfl)) | (rw [if_neg (by omega)]; (try go_simp); (try with_reducible rfl)))))
      try simp only [Act.put, zA, zB, zC]
      refine wpAnyR_n1 (i := 6) rfl (by kernel_rfl) ?_
      intro K' hK
      rw [if_pos (by rfl)]
      simp only [List.getElem_toArray, List.getElem_cons_succ, List.getElem_cons_zero]
      go_wp2_with fail
      refine (HIX.out _ (Grew.refl w1).drew).mono ?_
      rintro e W ⟨rfl, g2⟩
      have g2' : Grew w1 W := (Grew.refl w1).drew.trans g2
      go_wp2_with fail
      refine hK.out _ _ (.inr (fun h => by
        simp only [g2'.cellEq _ _ hxo, g2'.cellEq _ _ hgr]
        exact hS)) ?_
      clear hK hS
      refine wpAnyR_takeQ (i := 7) (v := ?_) (some 7) rfl rfl (by kernel_rfl) (by kernel_rfl) (by kernel_rfl) (by kernel_rfl) (fun _ _ _ h => h) (Or.inl ⟨by rfl, ?_⟩) ?_
      rotate_left
      focus (intro wS hSw; (try dsimp only at hSw); go_simp; (try with_reducible rfl); (try (first | (rw [if_pos (by omega)]; (try go_simp); (try with_reducible rfl)) | (rw [if_neg (by omega)]; (try go_simp); (try with_reducible rfl)))))
      try simp only [Act.put, zA, zB, zC]
      refine wpAnyR_done (by kernel_rfl) ?_ _
      have hk' : k < (T.labels).length := by simpa using hk
      have hk2 : (T.labels)[k]'hk' = T.labels[k] := by first | exact HLK.out | rfl
      have ht3 := HTAB.out.hold g2'
      have z0 : W.cell? ⟨g, k * 5, none⟩ = some (.int .i64 T.labels[k].id) := by rw [← hk2]; exact ht3.row0 hk'
      have z1 : W.cell? ⟨g, k * 5 + 1, none⟩ = some (.int .i64 T.labels[k].unit) := by rw [← hk2]; exact ht3.row1 hk'
      have zf1 := ht3.own.frozen (k * 5 + 1)
      have hg3 := ht3.own.block_lt.2
      obtain ⟨ys4, ht4⟩ := ht3.drew.unit_ hk' 0 (by omega)
      have hk4 : k < ((T.labels).set k { (T.labels)[k]'hk' with unit := 0 }).length := by simpa using hk
      have hk5 : ((T.labels).set k { (T.labels)[k]'hk' with unit := 0 })[k]'hk4 = { T.labels[k] with unit := 0 } := by rw [List.getElem_set_self, hk2]
      have HZ0 := Lib.hid (show (World.setCell W.drew ⟨g, k * 5 + 1, none⟩ (.int .i64 0)).cell? ⟨g, k * 5, none⟩ = some (.int .i64 T.labels[k].id) from by have := ht4.row0 hk4; rwa [hk5] at this)
      have z3 : (World.setCell W.drew ⟨g, k * 5 + 1, none⟩ (.int .i64 0)).cell? ⟨g, k * 5 + 3, none⟩ = some (.string T.labels[k].note) := by have := ht4.row3 hk4; rwa [hk5] at this
      have y3 : W.cell? ⟨g, k * 5 + 3, none⟩ = some (.string T.labels[k].note) := by rw [← hk2]; exact ht3.row3 hk'
      have zf3 := ht3.own.frozen (k * 5 + 3)
      obtain ⟨ys5, ht5⟩ := ht4.note_ hk4 note hns
      have HT5 := Lib.hid (show ∃ ys, TabO _ base (.slice (some ⟨g, 0, none⟩) T.labels.length cap) ys ((T.labels).set k { T.labels[k] with unit := 0, note := note }) from ⟨ys5, by rw [hk5, List.set_set] at ht5; exact ht5⟩)
      have HTU := Lib.hid (((g2'.turned (fun x => x = g)).drew.trans (set_turned _ g (k * 5 + 1) (.int .i64 0))).trans (set_turned _ g (k * 5 + 3) (.string note)))
      have HB3 := Lib.hid (HBN.out.grew g2')
      have hgn3 := HB3.out.lt
      have b3 := HB3.out.cell 0
      clear ht3 ht4 ht5 hk5
      clear y0 y1 n0 r0 g2 g2'
      go_wp2_with fail
      refine wp_region_R [8] (fun w' : World => w'.cell? ⟨gn, 0, none⟩ = some (.string note) ∧ w'.cell? ⟨g, k * 5, none⟩ = some (.int .i64 T.labels[k].id)) (by kernel_rfl) ?_
      have hS : (fun w' : World => w'.cell? ⟨gn, 0, none⟩ = some (.string note) ∧ w'.cell? ⟨g, k * 5, none⟩ = some (.int .i64 T.labels[k].id)) (World.drew _) := ⟨HB3.out.drew.cell 0, z0⟩
      refine wpAnyR_takeQ (i := 0) (v := ?_) (some 32) rfl rfl (by kernel_rfl) (by kernel_rfl) (by kernel_rfl) (by kernel_rfl) (fun _ _ _ h => h) (Or.inl ⟨by rfl, ?_⟩) ?_
      rotate_left
      focus (intro wS hSw; (try dsimp only at hSw); go_simp; (try with_reducible rfl); (try (first | (rw [if_pos (by omega)]; (try go_simp); (try with_reducible rfl)) | (rw [if_neg (by omega)]; (try go_simp); (try with_reducible rfl)))))
      try simp only [Act.put, zA, zB, zC]
      refine wpAnyR_takeQ (i := 1) (v := ?_) (some 33) rfl rfl (by kernel_rfl) (by kernel_rfl) (by kernel_rfl) (by kernel_rfl) (fun _ _ _ h => h) (Or.inl ⟨by rfl, ?_⟩) ?_
      rotate_left
      focus (intro wS hSw; (try dsimp only at hSw); go_simp; (try with_reducible rfl); (try (first | (rw [if_pos (by omega)]; (try go_simp); (try with_reducible rfl)) | (rw [if_neg (by omega)]; (try go_simp); (try with_reducible rfl)))))
      try simp only [Act.put, zA, zB, zC]
      refine wpAnyR_take (i := 2) (v := ?_) [6, 7, 8] (some 34) rfl rfl (by kernel_rfl) (by kernel_rfl) (by kernel_rfl) (by kernel_rfl) (by kernel_rfl) (by kernel_rfl) (by kernel_rfl) (fun _ _ _ h => h) (Or.inl ⟨by rfl, ?_⟩) hS ?_
      rotate_left
      focus (intro wS hSw; (try dsimp only at hSw); go_simp; (try with_reducible rfl); (try (first | (rw [if_pos (by omega)]; (try go_simp); (try with_reducible rfl)) | (rw [if_neg (by omega)]; (try go_simp); (try with_reducible rfl)))))
      try simp only [Act.put, zA, zB, zC]
      refine wpAnyR_take (i := 3) (v := ?_) [4, 5, 6, 7, 8] (some 35) rfl rfl (by kernel_rfl) (by kernel_rfl) (by kernel_rfl) (by kernel_rfl) (by kernel_rfl) (by kernel_rfl) (by kernel_rfl) (fun _ _ _ h => h) (Or.inl ⟨by rfl, ?_⟩) hS ?_
      rotate_left
      focus (intro wS hSw; (try dsimp only at hSw); go_simp; (try with_reducible rfl); (try (first | (rw [if_pos (by omega)]; (try go_simp); (try with_reducible rfl)) | (rw [if_neg (by omega)]; (try go_simp); (try with_reducible rfl)))))
      try simp only [Act.put, zA, zB, zC]
      refine wpAnyR_takeQ (i := 4) (v := ?_) (some 36) rfl rfl (by kernel_rfl) (by kernel_rfl) (by kernel_rfl) (by kernel_rfl) (fun _ _ _ h => h) (Or.inl ⟨by rfl, ?_⟩) ?_
      rotate_left
      focus (intro wS hSw; (try dsimp only at hSw); go_simp; (try with_reducible rfl); (try (first | (rw [if_pos (by omega)]; (try go_simp); (try with_reducible rfl)) | (rw [if_neg (by omega)]; (try go_simp); (try with_reducible rfl)))))
      try simp only [Act.put, zA, zB, zC]
      refine wpAnyR_n1 (i := 5) rfl (by kernel_rfl) ?_
      intro K' hK
      rw [if_pos (by rfl)]
      simp only [List.getElem_toArray, List.getElem_cons_succ, List.getElem_cons_zero]
      go_wp2_with fail
      refine hK.out _ _ (.inr (fun h => ⟨(HB3.out.drew.far (p := ⟨g, k * 5 + 1, none⟩) hgng (.int .i64 0)).cell 0, HZ0.out⟩)) ?_
      clear hK hS
      have hS : (fun w' : World => w'.cell? ⟨gn, 0, none⟩ = some (.string note) ∧ w'.cell? ⟨g, k * 5, none⟩ = some (.int .i64 T.labels[k].id)) (W.setCell ⟨g, k * 5 + 1, none⟩ (.int .i64 0)).drew := ⟨(HB3.out.drew.far (p := ⟨g, k * 5 + 1, none⟩) hgng (.int .i64 0)).cell 0, HZ0.out⟩
      refine wpAnyR_take (i := 6) (v := ?_) [7, 8] (some 37) rfl rfl (by kernel_rfl) (by kernel_rfl) (by kernel_rfl) (by kernel_rfl) (by kernel_rfl) (by kernel_rfl) (by kernel_rfl) (fun _ _ _ h => h) (Or.inl ⟨by rfl, ?_⟩) hS ?_
      rotate_left
      focus (intro wS hSw; (try dsimp only at hSw); go_simp; (try with_reducible rfl); (try (first | (rw [if_pos (by omega)]; (try go_simp); (try with_reducible rfl)) | (rw [if_neg (by omega)]; (try go_simp); (try with_reducible rfl)))))
      try simp only [Act.put, zA, zB, zC]
      refine wpAnyR_takeQ (i := 7) (v := ?_) (some 38) rfl rfl (by kernel_rfl) (by kernel_rfl) (by kernel_rfl) (by kernel_rfl) (fun _ _ _ h => h) (Or.inl ⟨by rfl, ?_⟩) ?_
      rotate_left
      focus (intro wS hSw; (try dsimp only at hSw); go_simp; (try with_reducible rfl); (try (first | (rw [if_pos (by omega)]; (try go_simp); (try with_reducible rfl)) | (rw [if_neg (by omega)]; (try go_simp); (try with_reducible rfl)))))
      try simp only [Act.put, zA, zB, zC]
      refine wpAnyR_n1 (i := 8) rfl (by kernel_rfl) ?_
      intro K' hK
      rw [if_pos (by rfl)]
      simp only [List.getElem_toArray, List.getElem_cons_succ, List.getElem_cons_zero]
      go_wp2_with fail
      refine hK.out _ _ (.inl rfl) ?_
      clear hK
      refine wpAnyR_done (by kernel_rfl) ?_ _
      go_wp2_with fail
      go_ret
      rw [HE.out]
      exact ⟨rfl, HT5.out, HTU.out⟩
end
end Go.Proofs.YtnlaogneceanoaaGreat
namespace Go.Proofs.YtnlaogneceanoaaGreat
set_option linter.unusedVariables false
set_option linter.unusedSimpArgs false
set_option linter.unusedSectionVars false
open Go.RowKit
theorem OwnL.len {w : World} {base e sz g n cap : Nat} {rows : List (List Value)} (h : OwnL w base e sz (.slice (some ⟨g, 0, none⟩) n cap) rows) : rows.length = n ∧ n ≤ cap ∧ cap ≤ 9223372036854775807 := by
  rcases h.2.2 with ⟨h0, _⟩ | ⟨g', cap', cur, hv, _, _, hn, hm, _⟩
  · cases h0
  · injection hv with _ h1 h2
    unfold maxLen at hm
    exact ⟨h1.symm, by rw [h1, h2]; exact hn, by rw [h2]; simpa using hm⟩
theorem OwnL.block {w : World} {base e sz g n cap : Nat} {rows : List (List Value)} (h : OwnL w base e sz (.slice (some ⟨g, 0, none⟩) n cap) rows) :
    ∃ cur, base ≤ g ∧ w.heap[g]? = some (.cells cur e (0, 0)) ∧ cur.size = cap * sz ∧ cur.toList.take (n * sz) = rows.flatten := by
  have hlen := h.len.1
  rcases h.2.2 with ⟨h0, _⟩ | ⟨g', cap', cur, hv, hb, hh, hn, hm, hs, ht⟩
  · cases h0
  · injection hv with h0 h1 h2
    injection h0 with h0
    injection h0 with h0 _ _
    subst h0
    rw [hlen] at ht
    exact ⟨cur, hb, hh, by rw [hs, h2], ht⟩
section
variable {P : Program}
end
end Go.Proofs.YtnlaogneceanoaaGreat
namespace Go.Proofs.YtnlaogneceanoaaGreat
set_option linter.unusedVariables false
set_option linter.unusedSimpArgs false
set_option linter.unusedSectionVars false
open Go.RowKit
attribute [local go_sem ↓] Go.wp_at_zero Go.wp_at_succ
theorem runs_ne_tab {w : World} {A : Option Addr} {l : List (Int × Int)} {g : Nat} {t : TypeId} {s : ByteArray} {i : Int} {a : Option Addr} {n c : Nat} (h : RunsAt w w.heap.size A l) (hl : 0 < l.length) (hb : Blk w g t #[.string s, .int .i64 i, .slice a n c]) : ∀ b off, A = some ⟨b, off, none⟩ → b ≠ g := by
  rintro b off e rfl
  obtain ⟨b', off', x, y, e', hb', hv, _, c0, c1⟩ := h.at_ (k := 0) hl
  rw [e] at e'
  injection e' with e'
  injection e' with e1 e2 _
  subst e1; subst e2
  rw [Nat.zero_mul, Nat.add_zero] at c0 c1
  rw [hb.cell] at c0 c1
  match off with
  | 0 => simp at c0
  | 1 => simp at c1
  | 2 => simp at c0
  | off + 3 => simp at c0
theorem TabO.apart {w : World} {base : Nat} {v : Value} {ys : List LabE} {ls : List Lab} (h : TabO w base v ys ls) {g : Nat} {t : TypeId} {s : ByteArray} {i : Int} {a : Option Addr} {n c : Nat} (hb : Blk w g t #[.string s, .int .i64 i, .slice a n c]) : ∀ y ∈ ys, 0 < y.l.ext.length → ∀ b off, y.A = some ⟨b, off, none⟩ → ¬ b = g :=
  fun y hy h0 b off e => runs_ne_tab (h.lab y hy).runs h0 hb b off e
theorem TabO.nlen {w : World} {base g n cap : Nat} {ys : List LabE} {ls : List Lab} (h : TabO w base (.slice (some ⟨g, 0, none⟩) n cap) ys ls) : ls.length = n := by
  have h1 := h.own.len.1
  rw [List.length_map, h.len] at h1
  exact h1
theorem chgT_cases (T : Tab) (id unit : Int) (F : Nat → Lab → List Lab × Int) : (validT T = false ∧ chgT T id unit F = (tabZ, 1)) ∨ (validT T = true ∧ idxT T id unit = -1 ∧ chgT T id unit F = (tabZ, 6)) ∨
    (validT T = true ∧ ∃ (k : Nat) (hk : k < T.labels.length), idxT T id unit = (k : Int) ∧ hitL id unit T.labels[k] = true ∧ (((F k T.labels[k]).2 = 0 ∧ chgT T id unit F = ({ T with labels := (F k T.labels[k]).1 }, 0)) ∨ ((F k T.labels[k]).2 ≠ 0 ∧ chgT T id unit F = (tabZ, (F k T.labels[k]).2)))) := by
  unfold chgT
  cases hv : validT T with
  | false => exact .inl ⟨rfl, if_neg (by simp)⟩
  | true =>
    right
    rw [if_pos rfl]
    rcases idxP_cases (hitL id unit) T.labels with ⟨k, hk, h1, h2, _⟩ | ⟨h1, _⟩
    · have h1' : idxT T id unit = (k : Int) := h1
      right
      rw [h1', if_pos (by omega), Int.toNat_natCast, List.getD_eq_getElem?_getD, List.getElem?_eq_getElem hk, Option.getD_some]
      refine ⟨rfl, k, hk, rfl, h2, ?_⟩
      by_cases h0 : (F k T.labels[k]).2 = 0
      · exact .inl ⟨h0, by rw [if_pos h0]⟩
      · exact .inr ⟨h0, by rw [if_neg h0]⟩
    · have h1' : idxT T id unit = -1 := h1
      left
      rw [h1', if_neg (by omega)]
      exact ⟨rfl, rfl, rfl⟩
/-- A table and an error, returned. -/
def TabR (w : World) (T : Tab) (er : Int) (e : Ending) (w' : World) : Prop :=
  ∃ A c xs, e = .returned (.tuple #[.agg #[.string T.name, .int .i64 T.tracks, .slice A T.labels.length c], .int .i64 er]) ∧ TabAt w' A c xs T ∧ Grew w w'
section
variable (A : Option Addr) (c : Nat) (xs : List LabE) (T : Tab) (id unit : Int) (w : World) (p1 p2 : Nat)
set_option maxRecDepth 100000 in
set_option maxHeartbeats 8000000 in
theorem change_ext (h : TabAt w A c xs T) (hs : SmallT T) (F : Nat → Lab → List Lab × Int)
    (HC : ∀ (w1 : World) (base g cap xo : Nat) (ys : List LabE) (k : Nat) (hk : k < T.labels.length), hitL id unit T.labels[k] = true → OutAt w w1 base g cap xo ys T → Calls Tryz.prog 115 #[.pointer (some ⟨g, k * 5, none⟩), .pointer (some ⟨xo, 0, none⟩), .pointer (some ⟨p1, 0, none⟩), .pointer (some ⟨p2, 0, none⟩)] w1 (ChgR w1 base g cap T.labels.length (F k T.labels[k])))
    (T' : Tab) (er : Int) (hr : chgT T id unit F = (T', er)) :
    Calls Tryz.prog 90 #[.agg #[.string T.name, .int .i64 T.tracks, .slice A T.labels.length c], .agg #[.int .i64 id, .int .i64 unit], .func (.func 115) #[] #[.pointer (some ⟨p1, 0, none⟩), .pointer (some ⟨p2, 0, none⟩)]] w (TabR w T' er) := by
  have hg0 := (((Grew.refl w).alloc (.cells #[.string T.name, .int .i64 T.tracks, .slice A T.labels.length c] 24)).alloc (.cells #[.int .i64 id, .int .i64 unit] 26)).alloc (.cells #[.string ⟨#[]⟩, .int .i64 0, .slice none 0 0] 24)
  have hb0 := ((Blk.new w 24 #[.string T.name, .int .i64 T.tracks, .slice A T.labels.length c] rfl).alloc (.cells #[.int .i64 id, .int .i64 unit] 26)).alloc (.cells #[.string ⟨#[]⟩, .int .i64 0, .slice none 0 0] 24)
  have hrf0 := (Blk.new (w.alloc (.cells #[.string T.name, .int .i64 T.tracks, .slice A T.labels.length c] 24)) 26 #[.int .i64 id, .int .i64 unit] (n := w.heap.size + 1) (by simp)).alloc (.cells #[.string ⟨#[]⟩, .int .i64 0, .slice none 0 0] 24)
  have hz0 := Blk.new ((w.alloc (.cells #[.string T.name, .int .i64 T.tracks, .slice A T.labels.length c] 24)).alloc (.cells #[.int .i64 id, .int .i64 unit] 26)) 24 #[.string ⟨#[]⟩, .int .i64 0, .slice none 0 0] (n := w.heap.size + 1 + 1) (by simp)
  have HV := Lib.hid (valid_tab A c xs T _ (h.hold hg0) hs _ rfl)
  have HIX := Lib.hid (fun w2 (g2 : Grew w w2) k hk => cindex_any A c xs T id unit w2 (h.hold g2) hs _ rfl k hk)
  have HCL := Lib.hid (fun w2 (g2 : Grew w w2) => clone_tab A c xs T w2 (h.hold g2) hs _ rfl)
  have HNM := Lib.hid (show T.name.size ≤ 9223372036854775807 ∧ -9223372036854775808 ≤ T.tracks ∧ T.tracks ≤ 9223372036854775807 from ⟨h.name, h.tr0, h.tr1⟩)
  have HCC := Lib.hid HC
  have HG0 := Lib.hid hg0
  have HB0 := Lib.hid hb0
  have HRF := Lib.hid hrf0
  have HZ0 := Lib.hid hz0
  clear h hs HC hg0 hb0 hrf0 hz0
  rcases chgT_cases T id unit F with ⟨hv, hx⟩ | ⟨hv, hi, hx⟩ | ⟨hv, k, hk, hi, hhit, hx⟩
  · rw [hx] at hr
    injection hr with h1 h2
    subst h1; subst h2
    have HVF := Lib.hid hv
    clear hv hx
    go_enter Tryz.func90, Tryz.ntmps90
    go_wp2_with fail
    refine HV.out.mono ?_
    rintro e w1 ⟨rfl, g1⟩
    rw [HVF.out]
    have hz1 := HZ0.out.grew g1
    have z0 := hz1.cell 0
    have z1 := hz1.cell 1
    have z2 := hz1.cell 2
    have f0 := hz1.frozen 0
    have f1 := hz1.frozen 1
    have f2 := hz1.frozen 2
    have hzl := hz1.lt
    have hg1 := HG0.out.trans g1
    clear hz1 g1
    go_wp2_with fail
    refine bodyPost_ret (by first | (simp [*, results, Tryz.results90, go_sem]; rfl) | simp [*, results, Tryz.results90, go_sem]) rfl ?_
    exact ⟨none, 0, [], rfl, TabAt.zero _, by (repeat' first | (with_reducible exact Grew.refl _) | (with_reducible assumption) | (with_reducible refine Grew.alloc ?_ _) | (with_reducible refine Grew.drew ?_) | (with_reducible refine Grew.drewN ?_ _) | (with_reducible refine Grew.setRow ?_ (by first | (simp; done) | (simp; omega) | omega) _) | (with_reducible refine Grew.setCell ?_ (by first | (simp; done) | (simp; omega) | omega) _) | ((with_reducible apply Grew.trans); rotate_left; (with_reducible assumption)) | ((with_reducible apply Grew.turn); rotate_left; (with_reducible assumption); (focus (intro i hi; first | omega | (simp at hi; omega)))) | fail)⟩
  · rw [hx] at hr
    injection hr with h1 h2
    subst h1; subst h2
    have HVF := Lib.hid hv
    have HI := Lib.hid hi
    clear hv hx hi
    go_enter Tryz.func90, Tryz.ntmps90
    go_wp2_with fail
    refine HV.out.mono ?_
    rintro e w1 ⟨rfl, g1⟩
    rw [HVF.out]
    have hb1 := HB0.out.grew g1
    have b0 := hb1.cell 0
    have b1 := hb1.cell 1
    have b2 := hb1.cell 2
    have hbl := hb1.lt
    have hr1 := HRF.out.grew g1
    have r0 := hr1.cell 0
    have r1 := hr1.cell 1
    have hrl := hr1.lt
    have HG1 := Lib.hid (HG0.out.trans g1)
    have HZ1 := Lib.hid (HZ0.out.grew g1)
    clear hb1 hr1 g1
    go_wp2_with fail
    refine (HIX.out w1 HG1.out _ HI.out).mono ?_
    rintro e w2 ⟨rfl, g2⟩
    have hz1 := HZ1.out.grew g2
    have z0 := hz1.cell 0
    have z1 := hz1.cell 1
    have z2 := hz1.cell 2
    have f0 := hz1.frozen 0
    have f1 := hz1.frozen 1
    have f2 := hz1.frozen 2
    have hzl := hz1.lt
    have hg1 := HG1.out.trans g2
    clear hz1 g2 b0 b1 b2 r0 r1
    go_wp2_with fail
    refine bodyPost_ret (by first | (simp [*, results, Tryz.results90, go_sem]; rfl) | simp [*, results, Tryz.results90, go_sem]) rfl ?_
    exact ⟨none, 0, [], rfl, TabAt.zero _, by (repeat' first | (with_reducible exact Grew.refl _) | (with_reducible assumption) | (with_reducible refine Grew.alloc ?_ _) | (with_reducible refine Grew.drew ?_) | (with_reducible refine Grew.drewN ?_ _) | (with_reducible refine Grew.setRow ?_ (by first | (simp; done) | (simp; omega) | omega) _) | (with_reducible refine Grew.setCell ?_ (by first | (simp; done) | (simp; omega) | omega) _) | ((with_reducible apply Grew.trans); rotate_left; (with_reducible assumption)) | ((with_reducible apply Grew.turn); rotate_left; (with_reducible assumption); (focus (intro i hi; first | omega | (simp at hi; omega)))) | fail)⟩
  · have HVF := Lib.hid hv
    have HI := Lib.hid hi
    have HHIT := Lib.hid hhit
    obtain ⟨⟨r1, r2⟩, hF⟩ : ∃ r, F k T.labels[k] = r := ⟨_, rfl⟩
    rw [hF] at hx
    have HF := Lib.hid hF
    have hkn : (k : Int) < (T.labels.length : Int) := by omega
    clear hv hi hhit hF
    go_enter Tryz.func90, Tryz.ntmps90
    go_wp2_with fail
    refine HV.out.mono ?_
    rintro e w1 ⟨rfl, g1⟩
    rw [HVF.out]
    have hb1 := HB0.out.grew g1
    have b0 := hb1.cell 0
    have b1 := hb1.cell 1
    have b2 := hb1.cell 2
    have hbl := hb1.lt
    have hrr1 := HRF.out.grew g1
    have rr0 := hrr1.cell 0
    have rr1 := hrr1.cell 1
    have hrl := hrr1.lt
    have HG1 := Lib.hid (HG0.out.trans g1)
    have HZ1 := Lib.hid (HZ0.out.grew g1)
    have HB1 := Lib.hid hb1
    clear hb1 hrr1 g1
    go_wp2_with fail
    refine (HIX.out w1 HG1.out _ HI.out).mono ?_
    rintro e w2 ⟨rfl, g2⟩
    have hb2 := HB1.out.grew g2
    clear b0 b1 b2 rr0 rr1
    have b0 := hb2.cell 0
    have b1 := hb2.cell 1
    have b2 := hb2.cell 2
    have hbl2 := hb2.lt
    have HG2 := Lib.hid (HG1.out.trans g2)
    have HZ2 := Lib.hid (HZ1.out.grew g2)
    clear hb2 g2
    go_wp2_with fail
    refine (HCL.out w2 HG2.out).mono ?_
    rintro e w3 ⟨v, ys, rfl, hto, g3⟩
    obtain ⟨g, cap, rfl, hgb, hgs⟩ : ∃ g cap, v = .slice (some ⟨g, 0, none⟩) T.labels.length cap ∧ w2.heap.size ≤ g ∧ g < w3.heap.size := by
      rcases hto.own.form with ⟨_, h0⟩ | ⟨g, cap, hv, h1, h2, _⟩
      · have := congrArg List.length h0; rw [List.length_map, hto.len, List.length_nil] at this; omega
      · rw [List.length_map, hto.len] at hv; exact ⟨g, cap, hv, h1, h2⟩
    have hgx : Grew w3 (w3.alloc (.cells #[.string T.name, .int .i64 T.tracks, .slice (some ⟨g, 0, none⟩) T.labels.length cap] 24)) := (Grew.refl w3).alloc _
    have hg3 := HG2.out.trans g3
    have hz2 := HZ2.out.lt
    have hOut : OutAt w (w3.alloc (.cells #[.string T.name, .int .i64 T.tracks, .slice (some ⟨g, 0, none⟩) T.labels.length cap] 24)) w2.heap.size g cap w3.heap.size ys T :=
      ⟨hg3.trans hgx, by omega, hg3.size, by omega, hto.hold hgx, Blk.new w3 _ _ rfl⟩
    have HCA := Lib.hid (HCC.out _ _ _ _ _ _ k hk HHIT.out hOut)
    have hl1 : k < cap := by have := hto.own.len.2.1; omega
    have HZ3 := Lib.hid ((HZ2.out.grew g3).grew hgx)
    have HG3 := Lib.hid (hg3.trans hgx)
    have HOB := Lib.hid hOut.blk
    have hgne : ¬ w.heap.size + 1 + 1 = g := by omega
    have hxne : ¬ w3.heap.size = g := by omega
    have hzx : w.heap.size + 1 + 1 < w3.heap.size := Nat.lt_of_lt_of_le hz2 g3.size
    have hgw : w.heap.size ≤ g := by omega
    rw [HF.out] at HCA
    clear hto hgx hg3 hOut g3 b0 b1 b2
    go_wp2_with fail
    refine HCA.out.mono ?_
    rintro e w4 ⟨rfl, ⟨ys4, ht4⟩, tu4⟩
    have hz4 := HZ3.out.turned tu4 hgne
    have ho4 := HOB.out.turned tu4 hxne
    have z0 := hz4.cell 0
    have z1 := hz4.cell 1
    have z2 := hz4.cell 2
    have f0 := hz4.frozen 0
    have f1 := hz4.frozen 1
    have f2 := hz4.frozen 2
    have o0 := ho4.cell 0
    have o1 := ho4.cell 1
    have o2 := ho4.cell 2
    have hzl := hz4.lt
    have hol := ho4.lt
    have hg4 : Grew w w4 := HG3.out.turn tu4 (fun i e => by omega)
    have hap := ht4.apart hz4
    have HT4 := Lib.hid ht4
    have HAP := Lib.hid hap
    have HN4 := Lib.hid ht4.nlen
    clear hz4 ho4 tu4 ht4 hap HCA
    rcases hx with ⟨h0, hx⟩ | ⟨h0, hx⟩
    · try simp only at h0
      subst h0
      rw [hx] at hr
      injection hr with h1 h2
      subst h2
      have HT' := Lib.hid h1
      clear hx h1
      go_wp2_with fail
      refine bodyPost_ret (by first | (simp [*, results, Tryz.results90, go_sem]; rfl) | simp [*, results, Tryz.results90, go_sem]) rfl ?_
      refine ⟨some ⟨g, 0, none⟩, cap, ys4, by rw [← HT'.out]; simp only [HN4.out], ?_, by (repeat' first | (with_reducible exact Grew.refl _) | (with_reducible assumption) | (with_reducible refine Grew.alloc ?_ _) | (with_reducible refine Grew.drew ?_) | (with_reducible refine Grew.drewN ?_ _) | (with_reducible refine Grew.setRow ?_ (by first | (simp; done) | (simp; omega) | omega) _) | (with_reducible refine Grew.setCell ?_ (by first | (simp; done) | (simp; omega) | omega) _) | ((with_reducible apply Grew.trans); rotate_left; (with_reducible assumption)) | ((with_reducible apply Grew.turn); rotate_left; (with_reducible assumption); (focus (intro i hi; first | omega | (simp at hi; omega)))) | fail)⟩
      rw [← HT'.out]
      exact (HT4.out.turned (S := fun k => k = w.heap.size + 1 + 1) (by (repeat' first | (with_reducible exact Turned.refl _ _) | (with_reducible assumption) | (with_reducible refine Turned.alloc ?_ _) | (with_reducible refine Turned.drew ?_) | (with_reducible refine Turned.drewN ?_ _) | (with_reducible refine Turned.setRow ?_ (by first | (simp; done) | (simp; omega) | omega) _) | (with_reducible refine Turned.setCell ?_ (by first | (simp; done) | (simp; omega) | omega) _) | ((with_reducible apply Turned.andGrew); rotate_left; (with_reducible assumption)) | ((with_reducible apply Turned.trans); rotate_left; (with_reducible assumption)) | fail)) (fun g' e => by have e' : g = g' := Option.some.inj e; omega) (fun y hy h0 b off e => HAP.out y hy h0 b off e)).tabAt _ _ HNM.out.1 HNM.out.2.1 HNM.out.2.2
    · try simp only at h0 hx
      rw [hx] at hr
      injection hr with h1 h2
      subst h1; subst h2
      have hne : (r2 != 0) = true := by rw [bne_iff_ne]; exact h0
      clear hx h0
      go_wp2_with fail
      refine bodyPost_ret (by first | (simp [*, results, Tryz.results90, go_sem]; rfl) | simp [*, results, Tryz.results90, go_sem]) rfl ?_
      exact ⟨none, 0, [], rfl, TabAt.zero _, by (repeat' first | (with_reducible exact Grew.refl _) | (with_reducible assumption) | (with_reducible refine Grew.alloc ?_ _) | (with_reducible refine Grew.drew ?_) | (with_reducible refine Grew.drewN ?_ _) | (with_reducible refine Grew.setRow ?_ (by first | (simp; done) | (simp; omega) | omega) _) | (with_reducible refine Grew.setCell ?_ (by first | (simp; done) | (simp; omega) | omega) _) | ((with_reducible apply Grew.trans); rotate_left; (with_reducible assumption)) | ((with_reducible apply Grew.turn); rotate_left; (with_reducible assumption); (focus (intro i hi; first | omega | (simp at hi; omega)))) | fail)⟩
set_option maxRecDepth 100000 in
set_option maxHeartbeats 8000000 in
theorem change_rel (h : TabAt w A c xs T) (hs : SmallT T) (F : Nat → Lab → List Lab × Int)
    (HC : ∀ (w1 : World) (base g cap xo : Nat) (ys : List LabE) (k : Nat) (hk : k < T.labels.length), hitL id unit T.labels[k] = true → OutAt w w1 base g cap xo ys T → Calls Tryz.prog 117 #[.pointer (some ⟨g, k * 5, none⟩), .pointer (some ⟨xo, 0, none⟩), .pointer (some ⟨p1, 0, none⟩)] w1 (ChgR w1 base g cap T.labels.length (F k T.labels[k])))
    (T' : Tab) (er : Int) (hr : chgT T id unit F = (T', er)) :
    Calls Tryz.prog 90 #[.agg #[.string T.name, .int .i64 T.tracks, .slice A T.labels.length c], .agg #[.int .i64 id, .int .i64 unit], .func (.func 117) #[] #[.pointer (some ⟨p1, 0, none⟩)]] w (TabR w T' er) := by
  have hg0 := (((Grew.refl w).alloc (.cells #[.string T.name, .int .i64 T.tracks, .slice A T.labels.length c] 24)).alloc (.cells #[.int .i64 id, .int .i64 unit] 26)).alloc (.cells #[.string ⟨#[]⟩, .int .i64 0, .slice none 0 0] 24)
  have hb0 := ((Blk.new w 24 #[.string T.name, .int .i64 T.tracks, .slice A T.labels.length c] rfl).alloc (.cells #[.int .i64 id, .int .i64 unit] 26)).alloc (.cells #[.string ⟨#[]⟩, .int .i64 0, .slice none 0 0] 24)
  have hrf0 := (Blk.new (w.alloc (.cells #[.string T.name, .int .i64 T.tracks, .slice A T.labels.length c] 24)) 26 #[.int .i64 id, .int .i64 unit] (n := w.heap.size + 1) (by simp)).alloc (.cells #[.string ⟨#[]⟩, .int .i64 0, .slice none 0 0] 24)
  have hz0 := Blk.new ((w.alloc (.cells #[.string T.name, .int .i64 T.tracks, .slice A T.labels.length c] 24)).alloc (.cells #[.int .i64 id, .int .i64 unit] 26)) 24 #[.string ⟨#[]⟩, .int .i64 0, .slice none 0 0] (n := w.heap.size + 1 + 1) (by simp)
  have HV := Lib.hid (valid_tab A c xs T _ (h.hold hg0) hs _ rfl)
  have HIX := Lib.hid (fun w2 (g2 : Grew w w2) k hk => cindex_any A c xs T id unit w2 (h.hold g2) hs _ rfl k hk)
  have HCL := Lib.hid (fun w2 (g2 : Grew w w2) => clone_tab A c xs T w2 (h.hold g2) hs _ rfl)
  have HNM := Lib.hid (show T.name.size ≤ 9223372036854775807 ∧ -9223372036854775808 ≤ T.tracks ∧ T.tracks ≤ 9223372036854775807 from ⟨h.name, h.tr0, h.tr1⟩)
  have HCC := Lib.hid HC
  have HG0 := Lib.hid hg0
  have HB0 := Lib.hid hb0
  have HRF := Lib.hid hrf0
  have HZ0 := Lib.hid hz0
  clear h hs HC hg0 hb0 hrf0 hz0
  rcases chgT_cases T id unit F with ⟨hv, hx⟩ | ⟨hv, hi, hx⟩ | ⟨hv, k, hk, hi, hhit, hx⟩
  · rw [hx] at hr
    injection hr with h1 h2
    subst h1; subst h2
    have HVF := Lib.hid hv
    clear hv hx
    go_enter Tryz.func90, Tryz.ntmps90
    go_wp2_with fail
    refine HV.out.mono ?_
    rintro e w1 ⟨rfl, g1⟩
    rw [HVF.out]
    have hz1 := HZ0.out.grew g1
    have z0 := hz1.cell 0
    have z1 := hz1.cell 1
    have z2 := hz1.cell 2
    have f0 := hz1.frozen 0
    have f1 := hz1.frozen 1
    have f2 := hz1.frozen 2
    have hzl := hz1.lt
    have hg1 := HG0.out.trans g1
    clear hz1 g1
    go_wp2_with fail
    refine bodyPost_ret (by first | (simp [*, results, Tryz.results90, go_sem]; rfl) | simp [*, results, Tryz.results90, go_sem]) rfl ?_
    exact ⟨none, 0, [], rfl, TabAt.zero _, by (repeat' first | (with_reducible exact Grew.refl _) | (with_reducible assumption) | (with_reducible refine Grew.alloc ?_ _) | (with_reducible refine Grew.drew ?_) | (with_reducible refine Grew.drewN ?_ _) | (with_reducible refine Grew.setRow ?_ (by first | (simp; done) | (simp; omega) | omega) _) | (with_reducible refine Grew.setCell ?_ (by first | (simp; done) | (simp; omega) | omega) _) | ((with_reducible apply Grew.trans); rotate_left; (with_reducible assumption)) | ((with_reducible apply Grew.turn); rotate_left; (with_reducible assumption); (focus (intro i hi; first | omega | (simp at hi; omega)))) | fail)⟩
  · rw [hx] at hr
    injection hr with h1 h2
    subst h1; subst h2
    have HVF := Lib.hid hv
    have HI := Lib.hid hi
    clear hv hx hi
    go_enter Tryz.func90, Tryz.ntmps90
    go_wp2_with fail
    refine HV.out.mono ?_
    rintro e w1 ⟨rfl, g1⟩
    rw [HVF.out]
    have hb1 := HB0.out.grew g1
    have b0 := hb1.cell 0
    have b1 := hb1.cell 1
    have b2 := hb1.cell 2
    have hbl := hb1.lt
    have hr1 := HRF.out.grew g1
    have r0 := hr1.cell 0
    have r1 := hr1.cell 1
    have hrl := hr1.lt
    have HG1 := Lib.hid (HG0.out.trans g1)
    have HZ1 := Lib.hid (HZ0.out.grew g1)
    clear hb1 hr1 g1
    go_wp2_with fail
    refine (HIX.out w1 HG1.out _ HI.out).mono ?_
    rintro e w2 ⟨rfl, g2⟩
    have hz1 := HZ1.out.grew g2
    have z0 := hz1.cell 0
    have z1 := hz1.cell 1
    have z2 := hz1.cell 2
    have f0 := hz1.frozen 0
    have f1 := hz1.frozen 1
    have f2 := hz1.frozen 2
    have hzl := hz1.lt
    have hg1 := HG1.out.trans g2
    clear hz1 g2 b0 b1 b2 r0 r1
    go_wp2_with fail
    refine bodyPost_ret (by first | (simp [*, results, Tryz.results90, go_sem]; rfl) | simp [*, results, Tryz.results90, go_sem]) rfl ?_
    exact ⟨none, 0, [], rfl, TabAt.zero _, by (repeat' first | (with_reducible exact Grew.refl _) | (with_reducible assumption) | (with_reducible refine Grew.alloc ?_ _) | (with_reducible refine Grew.drew ?_) | (with_reducible refine Grew.drewN ?_ _) | (with_reducible refine Grew.setRow ?_ (by first | (simp; done) | (simp; omega) | omega) _) | (with_reducible refine Grew.setCell ?_ (by first | (simp; done) | (simp; omega) | omega) _) | ((with_reducible apply Grew.trans); rotate_left; (with_reducible assumption)) | ((with_reducible apply Grew.turn); rotate_left; (with_reducible assumption); (focus (intro i hi; first | omega | (simp at hi; omega)))) | fail)⟩
  · have HVF := Lib.hid hv
    have HI := Lib.hid hi
    have HHIT := Lib.hid hhit
    obtain ⟨⟨r1, r2⟩, hF⟩ : ∃ r, F k T.labels[k] = r := ⟨_, rfl⟩
    rw [hF] at hx
    have HF := Lib.hid hF
    have hkn : (k : Int) < (T.labels.length : Int) := by omega
    clear hv hi hhit hF
    go_enter Tryz.func90, Tryz.ntmps90
    go_wp2_with fail
    refine HV.out.mono ?_
    rintro e w1 ⟨rfl, g1⟩
    rw [HVF.out]
    have hb1 := HB0.out.grew g1
    have b0 := hb1.cell 0
    have b1 := hb1.cell 1
    have b2 := hb1.cell 2
    have hbl := hb1.lt
    have hrr1 := HRF.out.grew g1
    have rr0 := hrr1.cell 0
    have rr1 := hrr1.cell 1
    have hrl := hrr1.lt
    have HG1 := Lib.hid (HG0.out.trans g1)
    have HZ1 := Lib.hid (HZ0.out.grew g1)
    have HB1 := Lib.hid hb1
    clear hb1 hrr1 g1
    go_wp2_with fail
    refine (HIX.out w1 HG1.out _ HI.out).mono ?_
    rintro e w2 ⟨rfl, g2⟩
    have hb2 := HB1.out.grew g2
    clear b0 b1 b2 rr0 rr1
    have b0 := hb2.cell 0
    have b1 := hb2.cell 1
    have b2 := hb2.cell 2
    have hbl2 := hb2.lt
    have HG2 := Lib.hid (HG1.out.trans g2)
    have HZ2 := Lib.hid (HZ1.out.grew g2)
    clear hb2 g2
    go_wp2_with fail
    refine (HCL.out w2 HG2.out).mono ?_
    rintro e w3 ⟨v, ys, rfl, hto, g3⟩
    obtain ⟨g, cap, rfl, hgb, hgs⟩ : ∃ g cap, v = .slice (some ⟨g, 0, none⟩) T.labels.length cap ∧ w2.heap.size ≤ g ∧ g < w3.heap.size := by
      rcases hto.own.form with ⟨_, h0⟩ | ⟨g, cap, hv, h1, h2, _⟩
      · have := congrArg List.length h0; rw [List.length_map, hto.len, List.length_nil] at this; omega
      · rw [List.length_map, hto.len] at hv; exact ⟨g, cap, hv, h1, h2⟩
    have hgx : Grew w3 (w3.alloc (.cells #[.string T.name, .int .i64 T.tracks, .slice (some ⟨g, 0, none⟩) T.labels.length cap] 24)) := (Grew.refl w3).alloc _
    have hg3 := HG2.out.trans g3
    have hz2 := HZ2.out.lt
    have hOut : OutAt w (w3.alloc (.cells #[.string T.name, .int .i64 T.tracks, .slice (some ⟨g, 0, none⟩) T.labels.length cap] 24)) w2.heap.size g cap w3.heap.size ys T :=
      ⟨hg3.trans hgx, by omega, hg3.size, by omega, hto.hold hgx, Blk.new w3 _ _ rfl⟩
    have HCA := Lib.hid (HCC.out _ _ _ _ _ _ k hk HHIT.out hOut)
    have hl1 : k < cap := by have := hto.own.len.2.1; omega
    have HZ3 := Lib.hid ((HZ2.out.grew g3).grew hgx)
    have HG3 := Lib.hid (hg3.trans hgx)
    have HOB := Lib.hid hOut.blk
    have hgne : ¬ w.heap.size + 1 + 1 = g := by omega
    have hxne : ¬ w3.heap.size = g := by omega
    have hzx : w.heap.size + 1 + 1 < w3.heap.size := Nat.lt_of_lt_of_le hz2 g3.size
    have hgw : w.heap.size ≤ g := by omega
    rw [HF.out] at HCA
    clear hto hgx hg3 hOut g3 b0 b1 b2
    go_wp2_with fail
    refine HCA.out.mono ?_
    rintro e w4 ⟨rfl, ⟨ys4, ht4⟩, tu4⟩
    have hz4 := HZ3.out.turned tu4 hgne
    have ho4 := HOB.out.turned tu4 hxne
    have z0 := hz4.cell 0
    have z1 := hz4.cell 1
    have z2 := hz4.cell 2
    have f0 := hz4.frozen 0
    have f1 := hz4.frozen 1
    have f2 := hz4.frozen 2
    have o0 := ho4.cell 0
    have o1 := ho4.cell 1
    have o2 := ho4.cell 2
    have hzl := hz4.lt
    have hol := ho4.lt
    have hg4 : Grew w w4 := HG3.out.turn tu4 (fun i e => by omega)
    have hap := ht4.apart hz4
    have HT4 := Lib.hid ht4
    have HAP := Lib.hid hap
    have HN4 := Lib.hid ht4.nlen
    clear hz4 ho4 tu4 ht4 hap HCA
    rcases hx with ⟨h0, hx⟩ | ⟨h0, hx⟩
    · try simp only at h0
      subst h0
      rw [hx] at hr
      injection hr with h1 h2
      subst h2
      have HT' := Lib.hid h1
      clear hx h1
      go_wp2_with fail
      refine bodyPost_ret (by first | (simp [*, results, Tryz.results90, go_sem]; rfl) | simp [*, results, Tryz.results90, go_sem]) rfl ?_
      refine ⟨some ⟨g, 0, none⟩, cap, ys4, by rw [← HT'.out]; simp only [HN4.out], ?_, by (repeat' first | (with_reducible exact Grew.refl _) | (with_reducible assumption) | (with_reducible refine Grew.alloc ?_ _) | (with_reducible refine Grew.drew ?_) | (with_reducible refine Grew.drewN ?_ _) | (with_reducible refine Grew.setRow ?_ (by first | (simp; done) | (simp; omega) | omega) _) | (with_reducible refine Grew.setCell ?_ (by first | (simp; done) | (simp; omega) | omega) _) | ((with_reducible apply Grew.trans); rotate_left; (with_reducible assumption)) | ((with_reducible apply Grew.turn); rotate_left; (with_reducible assumption); (focus (intro i hi; first | omega | (simp at hi; omega)))) | fail)⟩
      rw [← HT'.out]
      exact (HT4.out.turned (S := fun k => k = w.heap.size + 1 + 1) (by (repeat' first | (with_reducible exact Turned.refl _ _) | (with_reducible assumption) | (with_reducible refine Turned.alloc ?_ _) | (with_reducible refine Turned.drew ?_) | (with_reducible refine Turned.drewN ?_ _) | (with_reducible refine Turned.setRow ?_ (by first | (simp; done) | (simp; omega) | omega) _) | (with_reducible refine Turned.setCell ?_ (by first | (simp; done) | (simp; omega) | omega) _) | ((with_reducible apply Turned.andGrew); rotate_left; (with_reducible assumption)) | ((with_reducible apply Turned.trans); rotate_left; (with_reducible assumption)) | fail)) (fun g' e => by have e' : g = g' := Option.some.inj e; omega) (fun y hy h0 b off e => HAP.out y hy h0 b off e)).tabAt _ _ HNM.out.1 HNM.out.2.1 HNM.out.2.2
    · try simp only at h0 hx
      rw [hx] at hr
      injection hr with h1 h2
      subst h1; subst h2
      have hne : (r2 != 0) = true := by rw [bne_iff_ne]; exact h0
      clear hx h0
      go_wp2_with fail
      refine bodyPost_ret (by first | (simp [*, results, Tryz.results90, go_sem]; rfl) | simp [*, results, Tryz.results90, go_sem]) rfl ?_
      exact ⟨none, 0, [], rfl, TabAt.zero _, by (repeat' first | (with_reducible exact Grew.refl _) | (with_reducible assumption) | (with_reducible refine Grew.alloc ?_ _) | (with_reducible refine Grew.drew ?_) | (with_reducible refine Grew.drewN ?_ _) | (with_reducible refine Grew.setRow ?_ (by first | (simp; done) | (simp; omega) | omega) _) | (with_reducible refine Grew.setCell ?_ (by first | (simp; done) | (simp; omega) | omega) _) | ((with_reducible apply Grew.trans); rotate_left; (with_reducible assumption)) | ((with_reducible apply Grew.turn); rotate_left; (with_reducible assumption); (focus (intro i hi; first | omega | (simp at hi; omega)))) | fail)⟩
set_option maxRecDepth 100000 in
set_option maxHeartbeats 8000000 in
theorem change_rep (h : TabAt w A c xs T) (hs : SmallT T) (F : Nat → Lab → List Lab × Int)
    (HC : ∀ (w1 : World) (base g cap xo : Nat) (ys : List LabE) (k : Nat) (hk : k < T.labels.length), hitL id unit T.labels[k] = true → OutAt w w1 base g cap xo ys T → Calls Tryz.prog 119 #[.pointer (some ⟨g, k * 5, none⟩), .pointer (some ⟨xo, 0, none⟩), .pointer (some ⟨p1, 0, none⟩)] w1 (ChgR w1 base g cap T.labels.length (F k T.labels[k])))
    (T' : Tab) (er : Int) (hr : chgT T id unit F = (T', er)) :
    Calls Tryz.prog 90 #[.agg #[.string T.name, .int .i64 T.tracks, .slice A T.labels.length c], .agg #[.int .i64 id, .int .i64 unit], .func (.func 119) #[] #[.pointer (some ⟨p1, 0, none⟩)]] w (TabR w T' er) := by
  have hg0 := (((Grew.refl w).alloc (.cells #[.string T.name, .int .i64 T.tracks, .slice A T.labels.length c] 24)).alloc (.cells #[.int .i64 id, .int .i64 unit] 26)).alloc (.cells #[.string ⟨#[]⟩, .int .i64 0, .slice none 0 0] 24)
  have hb0 := ((Blk.new w 24 #[.string T.name, .int .i64 T.tracks, .slice A T.labels.length c] rfl).alloc (.cells #[.int .i64 id, .int .i64 unit] 26)).alloc (.cells #[.string ⟨#[]⟩, .int .i64 0, .slice none 0 0] 24)
  have hrf0 := (Blk.new (w.alloc (.cells #[.string T.name, .int .i64 T.tracks, .slice A T.labels.length c] 24)) 26 #[.int .i64 id, .int .i64 unit] (n := w.heap.size + 1) (by simp)).alloc (.cells #[.string ⟨#[]⟩, .int .i64 0, .slice none 0 0] 24)
  have hz0 := Blk.new ((w.alloc (.cells #[.string T.name, .int .i64 T.tracks, .slice A T.labels.length c] 24)).alloc (.cells #[.int .i64 id, .int .i64 unit] 26)) 24 #[.string ⟨#[]⟩, .int .i64 0, .slice none 0 0] (n := w.heap.size + 1 + 1) (by simp)
  have HV := Lib.hid (valid_tab A c xs T _ (h.hold hg0) hs _ rfl)
  have HIX := Lib.hid (fun w2 (g2 : Grew w w2) k hk => cindex_any A c xs T id unit w2 (h.hold g2) hs _ rfl k hk)
  have HCL := Lib.hid (fun w2 (g2 : Grew w w2) => clone_tab A c xs T w2 (h.hold g2) hs _ rfl)
  have HNM := Lib.hid (show T.name.size ≤ 9223372036854775807 ∧ -9223372036854775808 ≤ T.tracks ∧ T.tracks ≤ 9223372036854775807 from ⟨h.name, h.tr0, h.tr1⟩)
  have HCC := Lib.hid HC
  have HG0 := Lib.hid hg0
  have HB0 := Lib.hid hb0
  have HRF := Lib.hid hrf0
  have HZ0 := Lib.hid hz0
  clear h hs HC hg0 hb0 hrf0 hz0
  rcases chgT_cases T id unit F with ⟨hv, hx⟩ | ⟨hv, hi, hx⟩ | ⟨hv, k, hk, hi, hhit, hx⟩
  · rw [hx] at hr
    injection hr with h1 h2
    subst h1; subst h2
    have HVF := Lib.hid hv
    clear hv hx
    go_enter Tryz.func90, Tryz.ntmps90
    go_wp2_with fail
    refine HV.out.mono ?_
    rintro e w1 ⟨rfl, g1⟩
    rw [HVF.out]
    have hz1 := HZ0.out.grew g1
    have z0 := hz1.cell 0
    have z1 := hz1.cell 1
    have z2 := hz1.cell 2
    have f0 := hz1.frozen 0
    have f1 := hz1.frozen 1
    have f2 := hz1.frozen 2
    have hzl := hz1.lt
    have hg1 := HG0.out.trans g1
    clear hz1 g1
    go_wp2_with fail
    refine bodyPost_ret (by first | (simp [*, results, Tryz.results90, go_sem]; rfl) | simp [*, results, Tryz.results90, go_sem]) rfl ?_
    exact ⟨none, 0, [], rfl, TabAt.zero _, by (repeat' first | (with_reducible exact Grew.refl _) | (with_reducible assumption) | (with_reducible refine Grew.alloc ?_ _) | (with_reducible refine Grew.drew ?_) | (with_reducible refine Grew.drewN ?_ _) | (with_reducible refine Grew.setRow ?_ (by first | (simp; done) | (simp; omega) | omega) _) | (with_reducible refine Grew.setCell ?_ (by first | (simp; done) | (simp; omega) | omega) _) | ((with_reducible apply Grew.trans); rotate_left; (with_reducible assumption)) | ((with_reducible apply Grew.turn); rotate_left; (with_reducible assumption); (focus (intro i hi; first | omega | (simp at hi; omega)))) | fail)⟩
  · rw [hx] at hr
    injection hr with h1 h2
    subst h1; subst h2
    have HVF := Lib.hid hv
    have HI := Lib.hid hi
    clear hv hx hi
    go_enter Tryz.func90, Tryz.ntmps90
    go_wp2_with fail
    refine HV.out.mono ?_
    rintro e w1 ⟨rfl, g1⟩
    rw [HVF.out]
    have hb1 := HB0.out.grew g1
    have b0 := hb1.cell 0
    have b1 := hb1.cell 1
    have b2 := hb1.cell 2
    have hbl := hb1.lt
    have hr1 := HRF.out.grew g1
    have r0 := hr1.cell 0
    have r1 := hr1.cell 1
    have hrl := hr1.lt
    have HG1 := Lib.hid (HG0.out.trans g1)
    have HZ1 := Lib.hid (HZ0.out.grew g1)
    clear hb1 hr1 g1
    go_wp2_with fail
    refine (HIX.out w1 HG1.out _ HI.out).mono ?_
    rintro e w2 ⟨rfl, g2⟩
    have hz1 := HZ1.out.grew g2
    have z0 := hz1.cell 0
    have z1 := hz1.cell 1
    have z2 := hz1.cell 2
    have f0 := hz1.frozen 0
    have f1 := hz1.frozen 1
    have f2 := hz1.frozen 2
    have hzl := hz1.lt
    have hg1 := HG1.out.trans g2
    clear hz1 g2 b0 b1 b2 r0 r1
    go_wp2_with fail
    refine bodyPost_ret (by first | (simp [*, results, Tryz.results90, go_sem]; rfl) | simp [*, results, Tryz.results90, go_sem]) rfl ?_
    exact ⟨none, 0, [], rfl, TabAt.zero _, by (repeat' first | (with_reducible exact Grew.refl _) | (with_reducible assumption) | (with_reducible refine Grew.alloc ?_ _) | (with_reducible refine Grew.drew ?_) | (with_reducible refine Grew.drewN ?_ _) | (with_reducible refine Grew.setRow ?_ (by first | (simp; done) | (simp; omega) | omega) _) | (with_reducible refine Grew.setCell ?_ (by first | (simp; done) | (simp; omega) | omega) _) | ((with_reducible apply Grew.trans); rotate_left; (with_reducible assumption)) | ((with_reducible apply Grew.turn); rotate_left; (with_reducible assumption); (focus (intro i hi; first | omega | (simp at hi; omega)))) | fail)⟩
  · have HVF := Lib.hid hv
    have HI := Lib.hid hi
    have HHIT := Lib.hid hhit
    obtain ⟨⟨r1, r2⟩, hF⟩ : ∃ r, F k T.labels[k] = r := ⟨_, rfl⟩
    rw [hF] at hx
    have HF := Lib.hid hF
    have hkn : (k : Int) < (T.labels.length : Int) := by omega
    clear hv hi hhit hF
    go_enter Tryz.func90, Tryz.ntmps90
    go_wp2_with fail
    refine HV.out.mono ?_
    rintro e w1 ⟨rfl, g1⟩
    rw [HVF.out]
    have hb1 := HB0.out.grew g1
    have b0 := hb1.cell 0
    have b1 := hb1.cell 1
    have b2 := hb1.cell 2
    have hbl := hb1.lt
    have hrr1 := HRF.out.grew g1
    have rr0 := hrr1.cell 0
    have rr1 := hrr1.cell 1
    have hrl := hrr1.lt
    have HG1 := Lib.hid (HG0.out.trans g1)
    have HZ1 := Lib.hid (HZ0.out.grew g1)
    have HB1 := Lib.hid hb1
    clear hb1 hrr1 g1
    go_wp2_with fail
    refine (HIX.out w1 HG1.out _ HI.out).mono ?_
    rintro e w2 ⟨rfl, g2⟩
    have hb2 := HB1.out.grew g2
    clear b0 b1 b2 rr0 rr1
    have b0 := hb2.cell 0
    have b1 := hb2.cell 1
    have b2 := hb2.cell 2
    have hbl2 := hb2.lt
    have HG2 := Lib.hid (HG1.out.trans g2)
    have HZ2 := Lib.hid (HZ1.out.grew g2)
    clear hb2 g2
    go_wp2_with fail
    refine (HCL.out w2 HG2.out).mono ?_
    rintro e w3 ⟨v, ys, rfl, hto, g3⟩
    obtain ⟨g, cap, rfl, hgb, hgs⟩ : ∃ g cap, v = .slice (some ⟨g, 0, none⟩) T.labels.length cap ∧ w2.heap.size ≤ g ∧ g < w3.heap.size := by
      rcases hto.own.form with ⟨_, h0⟩ | ⟨g, cap, hv, h1, h2, _⟩
      · have := congrArg List.length h0; rw [List.length_map, hto.len, List.length_nil] at this; omega
      · rw [List.length_map, hto.len] at hv; exact ⟨g, cap, hv, h1, h2⟩
    have hgx : Grew w3 (w3.alloc (.cells #[.string T.name, .int .i64 T.tracks, .slice (some ⟨g, 0, none⟩) T.labels.length cap] 24)) := (Grew.refl w3).alloc _
    have hg3 := HG2.out.trans g3
    have hz2 := HZ2.out.lt
    have hOut : OutAt w (w3.alloc (.cells #[.string T.name, .int .i64 T.tracks, .slice (some ⟨g, 0, none⟩) T.labels.length cap] 24)) w2.heap.size g cap w3.heap.size ys T :=
      ⟨hg3.trans hgx, by omega, hg3.size, by omega, hto.hold hgx, Blk.new w3 _ _ rfl⟩
    have HCA := Lib.hid (HCC.out _ _ _ _ _ _ k hk HHIT.out hOut)
    have hl1 : k < cap := by have := hto.own.len.2.1; omega
    have HZ3 := Lib.hid ((HZ2.out.grew g3).grew hgx)
    have HG3 := Lib.hid (hg3.trans hgx)
    have HOB := Lib.hid hOut.blk
    have hgne : ¬ w.heap.size + 1 + 1 = g := by omega
    have hxne : ¬ w3.heap.size = g := by omega
    have hzx : w.heap.size + 1 + 1 < w3.heap.size := Nat.lt_of_lt_of_le hz2 g3.size
    have hgw : w.heap.size ≤ g := by omega
    rw [HF.out] at HCA
    clear hto hgx hg3 hOut g3 b0 b1 b2
    go_wp2_with fail
    refine HCA.out.mono ?_
    rintro e w4 ⟨rfl, ⟨ys4, ht4⟩, tu4⟩
    have hz4 := HZ3.out.turned tu4 hgne
    have ho4 := HOB.out.turned tu4 hxne
    have z0 := hz4.cell 0
    have z1 := hz4.cell 1
    have z2 := hz4.cell 2
    have f0 := hz4.frozen 0
    have f1 := hz4.frozen 1
    have f2 := hz4.frozen 2
    have o0 := ho4.cell 0
    have o1 := ho4.cell 1
    have o2 := ho4.cell 2
    have hzl := hz4.lt
    have hol := ho4.lt
    have hg4 : Grew w w4 := HG3.out.turn tu4 (fun i e => by omega)
    have hap := ht4.apart hz4
    have HT4 := Lib.hid ht4
    have HAP := Lib.hid hap
    have HN4 := Lib.hid ht4.nlen
    clear hz4 ho4 tu4 ht4 hap HCA
    rcases hx with ⟨h0, hx⟩ | ⟨h0, hx⟩
    · try simp only at h0
      subst h0
      rw [hx] at hr
      injection hr with h1 h2
      subst h2
      have HT' := Lib.hid h1
      clear hx h1
      go_wp2_with fail
      refine bodyPost_ret (by first | (simp [*, results, Tryz.results90, go_sem]; rfl) | simp [*, results, Tryz.results90, go_sem]) rfl ?_
      refine ⟨some ⟨g, 0, none⟩, cap, ys4, by rw [← HT'.out]; simp only [HN4.out], ?_, by (repeat' first | (with_reducible exact Grew.refl _) | (with_reducible assumption) | (with_reducible refine Grew.alloc ?_ _) | (with_reducible refine Grew.drew ?_) | (with_reducible refine Grew.drewN ?_ _) | (with_reducible refine Grew.setRow ?_ (by first | (simp; done) | (simp; omega) | omega) _) | (with_reducible refine Grew.setCell ?_ (by first | (simp; done) | (simp; omega) | omega) _) | ((with_reducible apply Grew.trans); rotate_left; (with_reducible assumption)) | ((with_reducible apply Grew.turn); rotate_left; (with_reducible assumption); (focus (intro i hi; first | omega | (simp at hi; omega)))) | fail)⟩
      rw [← HT'.out]
      exact (HT4.out.turned (S := fun k => k = w.heap.size + 1 + 1) (by (repeat' first | (with_reducible exact Turned.refl _ _) | (with_reducible assumption) | (with_reducible refine Turned.alloc ?_ _) | (with_reducible refine Turned.drew ?_) | (with_reducible refine Turned.drewN ?_ _) | (with_reducible refine Turned.setRow ?_ (by first | (simp; done) | (simp; omega) | omega) _) | (with_reducible refine Turned.setCell ?_ (by first | (simp; done) | (simp; omega) | omega) _) | ((with_reducible apply Turned.andGrew); rotate_left; (with_reducible assumption)) | ((with_reducible apply Turned.trans); rotate_left; (with_reducible assumption)) | fail)) (fun g' e => by have e' : g = g' := Option.some.inj e; omega) (fun y hy h0 b off e => HAP.out y hy h0 b off e)).tabAt _ _ HNM.out.1 HNM.out.2.1 HNM.out.2.2
    · try simp only at h0 hx
      rw [hx] at hr
      injection hr with h1 h2
      subst h1; subst h2
      have hne : (r2 != 0) = true := by rw [bne_iff_ne]; exact h0
      clear hx h0
      go_wp2_with fail
      refine bodyPost_ret (by first | (simp [*, results, Tryz.results90, go_sem]; rfl) | simp [*, results, Tryz.results90, go_sem]) rfl ?_
      exact ⟨none, 0, [], rfl, TabAt.zero _, by (repeat' first | (with_reducible exact Grew.refl _) | (with_reducible assumption) | (with_reducible refine Grew.alloc ?_ _) | (with_reducible refine Grew.drew ?_) | (with_reducible refine Grew.drewN ?_ _) | (with_reducible refine Grew.setRow ?_ (by first | (simp; done) | (simp; omega) | omega) _) | (with_reducible refine Grew.setCell ?_ (by first | (simp; done) | (simp; omega) | omega) _) | ((with_reducible apply Grew.trans); rotate_left; (with_reducible assumption)) | ((with_reducible apply Grew.turn); rotate_left; (with_reducible assumption); (focus (intro i hi; first | omega | (simp at hi; omega)))) | fail)⟩
set_option maxRecDepth 100000 in
set_option maxHeartbeats 8000000 in
theorem change_con (h : TabAt w A c xs T) (hs : SmallT T) (F : Nat → Lab → List Lab × Int)
    (HC : ∀ (w1 : World) (base g cap xo : Nat) (ys : List LabE) (k : Nat) (hk : k < T.labels.length), hitL id unit T.labels[k] = true → OutAt w w1 base g cap xo ys T → Calls Tryz.prog 91 #[.pointer (some ⟨g, k * 5, none⟩), .pointer (some ⟨xo, 0, none⟩), .pointer (some ⟨p1, 0, none⟩), .pointer (some ⟨p2, 0, none⟩)] w1 (ChgR w1 base g cap T.labels.length (F k T.labels[k])))
    (T' : Tab) (er : Int) (hr : chgT T id unit F = (T', er)) :
    Calls Tryz.prog 90 #[.agg #[.string T.name, .int .i64 T.tracks, .slice A T.labels.length c], .agg #[.int .i64 id, .int .i64 unit], .func (.func 91) #[] #[.pointer (some ⟨p1, 0, none⟩), .pointer (some ⟨p2, 0, none⟩)]] w (TabR w T' er) := by
  have hg0 := (((Grew.refl w).alloc (.cells #[.string T.name, .int .i64 T.tracks, .slice A T.labels.length c] 24)).alloc (.cells #[.int .i64 id, .int .i64 unit] 26)).alloc (.cells #[.string ⟨#[]⟩, .int .i64 0, .slice none 0 0] 24)
  have hb0 := ((Blk.new w 24 #[.string T.name, .int .i64 T.tracks, .slice A T.labels.length c] rfl).alloc (.cells #[.int .i64 id, .int .i64 unit] 26)).alloc (.cells #[.string ⟨#[]⟩, .int .i64 0, .slice none 0 0] 24)
  have hrf0 := (Blk.new (w.alloc (.cells #[.string T.name, .int .i64 T.tracks, .slice A T.labels.length c] 24)) 26 #[.int .i64 id, .int .i64 unit] (n := w.heap.size + 1) (by simp)).alloc (.cells #[.string ⟨#[]⟩, .int .i64 0, .slice none 0 0] 24)
  have hz0 := Blk.new ((w.alloc (.cells #[.string T.name, .int .i64 T.tracks, .slice A T.labels.length c] 24)).alloc (.cells #[.int .i64 id, .int .i64 unit] 26)) 24 #[.string ⟨#[]⟩, .int .i64 0, .slice none 0 0] (n := w.heap.size + 1 + 1) (by simp)
  have HV := Lib.hid (valid_tab A c xs T _ (h.hold hg0) hs _ rfl)
  have HIX := Lib.hid (fun w2 (g2 : Grew w w2) k hk => cindex_any A c xs T id unit w2 (h.hold g2) hs _ rfl k hk)
  have HCL := Lib.hid (fun w2 (g2 : Grew w w2) => clone_tab A c xs T w2 (h.hold g2) hs _ rfl)
  have HNM := Lib.hid (show T.name.size ≤ 9223372036854775807 ∧ -9223372036854775808 ≤ T.tracks ∧ T.tracks ≤ 9223372036854775807 from ⟨h.name, h.tr0, h.tr1⟩)
  have HCC := Lib.hid HC
  have HG0 := Lib.hid hg0
  have HB0 := Lib.hid hb0
  have HRF := Lib.hid hrf0
  have HZ0 := Lib.hid hz0
  clear h hs HC hg0 hb0 hrf0 hz0
  rcases chgT_cases T id unit F with ⟨hv, hx⟩ | ⟨hv, hi, hx⟩ | ⟨hv, k, hk, hi, hhit, hx⟩
  · rw [hx] at hr
    injection hr with h1 h2
    subst h1; subst h2
    have HVF := Lib.hid hv
    clear hv hx
    go_enter Tryz.func90, Tryz.ntmps90
    go_wp2_with fail
    refine HV.out.mono ?_
    rintro e w1 ⟨rfl, g1⟩
    rw [HVF.out]
    have hz1 := HZ0.out.grew g1
    have z0 := hz1.cell 0
    have z1 := hz1.cell 1
    have z2 := hz1.cell 2
    have f0 := hz1.frozen 0
    have f1 := hz1.frozen 1
    have f2 := hz1.frozen 2
    have hzl := hz1.lt
    have hg1 := HG0.out.trans g1
    clear hz1 g1
    go_wp2_with fail
    refine bodyPost_ret (by first | (simp [*, results, Tryz.results90, go_sem]; rfl) | simp [*, results, Tryz.results90, go_sem]) rfl ?_
    exact ⟨none, 0, [], rfl, TabAt.zero _, by (repeat' first | (with_reducible exact Grew.refl _) | (with_reducible assumption) | (with_reducible refine Grew.alloc ?_ _) | (with_reducible refine Grew.drew ?_) | (with_reducible refine Grew.drewN ?_ _) | (with_reducible refine Grew.setRow ?_ (by first | (simp; done) | (simp; omega) | omega) _) | (with_reducible refine Grew.setCell ?_ (by first | (simp; done) | (simp; omega) | omega) _) | ((with_reducible apply Grew.trans); rotate_left; (with_reducible assumption)) | ((with_reducible apply Grew.turn); rotate_left; (with_reducible assumption); (focus (intro i hi; first | omega | (simp at hi; omega)))) | fail)⟩
  · rw [hx] at hr
    injection hr with h1 h2
    subst h1; subst h2
    have HVF := Lib.hid hv
    have HI := Lib.hid hi
    clear hv hx hi
    go_enter Tryz.func90, Tryz.ntmps90
    go_wp2_with fail
    refine HV.out.mono ?_
    rintro e w1 ⟨rfl, g1⟩
    rw [HVF.out]
    have hb1 := HB0.out.grew g1
    have b0 := hb1.cell 0
    have b1 := hb1.cell 1
    have b2 := hb1.cell 2
    have hbl := hb1.lt
    have hr1 := HRF.out.grew g1
    have r0 := hr1.cell 0
    have r1 := hr1.cell 1
    have hrl := hr1.lt
    have HG1 := Lib.hid (HG0.out.trans g1)
    have HZ1 := Lib.hid (HZ0.out.grew g1)
    clear hb1 hr1 g1
    go_wp2_with fail
    refine (HIX.out w1 HG1.out _ HI.out).mono ?_
    rintro e w2 ⟨rfl, g2⟩
    have hz1 := HZ1.out.grew g2
    have z0 := hz1.cell 0
    have z1 := hz1.cell 1
    have z2 := hz1.cell 2
    have f0 := hz1.frozen 0
    have f1 := hz1.frozen 1
    have f2 := hz1.frozen 2
    have hzl := hz1.lt
    have hg1 := HG1.out.trans g2
    clear hz1 g2 b0 b1 b2 r0 r1
    go_wp2_with fail
    refine bodyPost_ret (by first | (simp [*, results, Tryz.results90, go_sem]; rfl) | simp [*, results, Tryz.results90, go_sem]) rfl ?_
    exact ⟨none, 0, [], rfl, TabAt.zero _, by (repeat' first | (with_reducible exact Grew.refl _) | (with_reducible assumption) | (with_reducible refine Grew.alloc ?_ _) | (with_reducible refine Grew.drew ?_) | (with_reducible refine Grew.drewN ?_ _) | (with_reducible refine Grew.setRow ?_ (by first | (simp; done) | (simp; omega) | omega) _) | (with_reducible refine Grew.setCell ?_ (by first | (simp; done) | (simp; omega) | omega) _) | ((with_reducible apply Grew.trans); rotate_left; (with_reducible assumption)) | ((with_reducible apply Grew.turn); rotate_left; (with_reducible assumption); (focus (intro i hi; first | omega | (simp at hi; omega)))) | fail)⟩
  · have HVF := Lib.hid hv
    have HI := Lib.hid hi
    have HHIT := Lib.hid hhit
    obtain ⟨⟨r1, r2⟩, hF⟩ : ∃ r, F k T.labels[k] = r := ⟨_, rfl⟩
    rw [hF] at hx
    have HF := Lib.hid hF
    have hkn : (k : Int) < (T.labels.length : Int) := by omega
    clear hv hi hhit hF
    go_enter Tryz.func90, Tryz.ntmps90
    go_wp2_with fail
    refine HV.out.mono ?_
    rintro e w1 ⟨rfl, g1⟩
    rw [HVF.out]
    have hb1 := HB0.out.grew g1
    have b0 := hb1.cell 0
    have b1 := hb1.cell 1
    have b2 := hb1.cell 2
    have hbl := hb1.lt
    have hrr1 := HRF.out.grew g1
    have rr0 := hrr1.cell 0
    have rr1 := hrr1.cell 1
    have hrl := hrr1.lt
    have HG1 := Lib.hid (HG0.out.trans g1)
    have HZ1 := Lib.hid (HZ0.out.grew g1)
    have HB1 := Lib.hid hb1
    clear hb1 hrr1 g1
    go_wp2_with fail
    refine (HIX.out w1 HG1.out _ HI.out).mono ?_
    rintro e w2 ⟨rfl, g2⟩
    have hb2 := HB1.out.grew g2
    clear b0 b1 b2 rr0 rr1
    have b0 := hb2.cell 0
    have b1 := hb2.cell 1
    have b2 := hb2.cell 2
    have hbl2 := hb2.lt
    have HG2 := Lib.hid (HG1.out.trans g2)
    have HZ2 := Lib.hid (HZ1.out.grew g2)
    clear hb2 g2
    go_wp2_with fail
    refine (HCL.out w2 HG2.out).mono ?_
    rintro e w3 ⟨v, ys, rfl, hto, g3⟩
    obtain ⟨g, cap, rfl, hgb, hgs⟩ : ∃ g cap, v = .slice (some ⟨g, 0, none⟩) T.labels.length cap ∧ w2.heap.size ≤ g ∧ g < w3.heap.size := by
      rcases hto.own.form with ⟨_, h0⟩ | ⟨g, cap, hv, h1, h2, _⟩
      · have := congrArg List.length h0; rw [List.length_map, hto.len, List.length_nil] at this; omega
      · rw [List.length_map, hto.len] at hv; exact ⟨g, cap, hv, h1, h2⟩
    have hgx : Grew w3 (w3.alloc (.cells #[.string T.name, .int .i64 T.tracks, .slice (some ⟨g, 0, none⟩) T.labels.length cap] 24)) := (Grew.refl w3).alloc _
    have hg3 := HG2.out.trans g3
    have hz2 := HZ2.out.lt
    have hOut : OutAt w (w3.alloc (.cells #[.string T.name, .int .i64 T.tracks, .slice (some ⟨g, 0, none⟩) T.labels.length cap] 24)) w2.heap.size g cap w3.heap.size ys T :=
      ⟨hg3.trans hgx, by omega, hg3.size, by omega, hto.hold hgx, Blk.new w3 _ _ rfl⟩
    have HCA := Lib.hid (HCC.out _ _ _ _ _ _ k hk HHIT.out hOut)
    have hl1 : k < cap := by have := hto.own.len.2.1; omega
    have HZ3 := Lib.hid ((HZ2.out.grew g3).grew hgx)
    have HG3 := Lib.hid (hg3.trans hgx)
    have HOB := Lib.hid hOut.blk
    have hgne : ¬ w.heap.size + 1 + 1 = g := by omega
    have hxne : ¬ w3.heap.size = g := by omega
    have hzx : w.heap.size + 1 + 1 < w3.heap.size := Nat.lt_of_lt_of_le hz2 g3.size
    have hgw : w.heap.size ≤ g := by omega
    rw [HF.out] at HCA
    clear hto hgx hg3 hOut g3 b0 b1 b2
    go_wp2_with fail
    refine HCA.out.mono ?_
    rintro e w4 ⟨rfl, ⟨ys4, ht4⟩, tu4⟩
    have hz4 := HZ3.out.turned tu4 hgne
    have ho4 := HOB.out.turned tu4 hxne
    have z0 := hz4.cell 0
    have z1 := hz4.cell 1
    have z2 := hz4.cell 2
    have f0 := hz4.frozen 0
    have f1 := hz4.frozen 1
    have f2 := hz4.frozen 2
    have o0 := ho4.cell 0
    have o1 := ho4.cell 1
    have o2 := ho4.cell 2
    have hzl := hz4.lt
    have hol := ho4.lt
    have hg4 : Grew w w4 := HG3.out.turn tu4 (fun i e => by omega)
    have hap := ht4.apart hz4
    have HT4 := Lib.hid ht4
    have HAP := Lib.hid hap
    have HN4 := Lib.hid ht4.nlen
    clear hz4 ho4 tu4 ht4 hap HCA
    rcases hx with ⟨h0, hx⟩ | ⟨h0, hx⟩
    · try simp only at h0
      subst h0
      rw [hx] at hr
      injection hr with h1 h2
      subst h2
      have HT' := Lib.hid h1
      clear hx h1
      go_wp2_with fail
      refine bodyPost_ret (by first | (simp [*, results, Tryz.results90, go_sem]; rfl) | simp [*, results, Tryz.results90, go_sem]) rfl ?_
      refine ⟨some ⟨g, 0, none⟩, cap, ys4, by rw [← HT'.out]; simp only [HN4.out], ?_, by (repeat' first | (with_reducible exact Grew.refl _) | (with_reducible assumption) | (with_reducible refine Grew.alloc ?_ _) | (with_reducible refine Grew.drew ?_) | (with_reducible refine Grew.drewN ?_ _) | (with_reducible refine Grew.setRow ?_ (by first | (simp; done) | (simp; omega) | omega) _) | (with_reducible refine Grew.setCell ?_ (by first | (simp; done) | (simp; omega) | omega) _) | ((with_reducible apply Grew.trans); rotate_left; (with_reducible assumption)) | ((with_reducible apply Grew.turn); rotate_left; (with_reducible assumption); (focus (intro i hi; first | omega | (simp at hi; omega)))) | fail)⟩
      rw [← HT'.out]
      exact (HT4.out.turned (S := fun k => k = w.heap.size + 1 + 1) (by (repeat' first | (with_reducible exact Turned.refl _ _) | (with_reducible assumption) | (with_reducible refine Turned.alloc ?_ _) | (with_reducible refine Turned.drew ?_) | (with_reducible refine Turned.drewN ?_ _) | (with_reducible refine Turned.setRow ?_ (by first | (simp; done) | (simp; omega) | omega) _) | (with_reducible refine Turned.setCell ?_ (by first | (simp; done) | (simp; omega) | omega) _) | ((with_reducible apply Turned.andGrew); rotate_left; (with_reducible assumption)) | ((with_reducible apply Turned.trans); rotate_left; (with_reducible assumption)) | fail)) (fun g' e => by have e' : g = g' := Option.some.inj e; omega) (fun y hy h0 b off e => HAP.out y hy h0 b off e)).tabAt _ _ HNM.out.1 HNM.out.2.1 HNM.out.2.2
    · try simp only at h0 hx
      rw [hx] at hr
      injection hr with h1 h2
      subst h1; subst h2
      have hne : (r2 != 0) = true := by rw [bne_iff_ne]; exact h0
      clear hx h0
      go_wp2_with fail
      refine bodyPost_ret (by first | (simp [*, results, Tryz.results90, go_sem]; rfl) | simp [*, results, Tryz.results90, go_sem]) rfl ?_
      exact ⟨none, 0, [], rfl, TabAt.zero _, by (repeat' first | (with_reducible exact Grew.refl _) | (with_reducible assumption) | (with_reducible refine Grew.alloc ?_ _) | (with_reducible refine Grew.drew ?_) | (with_reducible refine Grew.drewN ?_ _) | (with_reducible refine Grew.setRow ?_ (by first | (simp; done) | (simp; omega) | omega) _) | (with_reducible refine Grew.setCell ?_ (by first | (simp; done) | (simp; omega) | omega) _) | ((with_reducible apply Grew.trans); rotate_left; (with_reducible assumption)) | ((with_reducible apply Grew.turn); rotate_left; (with_reducible assumption); (focus (intro i hi; first | omega | (simp at hi; omega)))) | fail)⟩
set_option maxRecDepth 100000 in
set_option maxHeartbeats 8000000 in
theorem change_note (h : TabAt w A c xs T) (hs : SmallT T) (F : Nat → Lab → List Lab × Int)
    (HC : ∀ (w1 : World) (base g cap xo : Nat) (ys : List LabE) (k : Nat) (hk : k < T.labels.length), hitL id unit T.labels[k] = true → OutAt w w1 base g cap xo ys T → Calls Tryz.prog 120 #[.pointer (some ⟨g, k * 5, none⟩), .pointer (some ⟨xo, 0, none⟩), .pointer (some ⟨p1, 0, none⟩)] w1 (ChgR w1 base g cap T.labels.length (F k T.labels[k])))
    (T' : Tab) (er : Int) (hr : chgT T id unit F = (T', er)) :
    Calls Tryz.prog 90 #[.agg #[.string T.name, .int .i64 T.tracks, .slice A T.labels.length c], .agg #[.int .i64 id, .int .i64 unit], .func (.func 120) #[] #[.pointer (some ⟨p1, 0, none⟩)]] w (TabR w T' er) := by
  have hg0 := (((Grew.refl w).alloc (.cells #[.string T.name, .int .i64 T.tracks, .slice A T.labels.length c] 24)).alloc (.cells #[.int .i64 id, .int .i64 unit] 26)).alloc (.cells #[.string ⟨#[]⟩, .int .i64 0, .slice none 0 0] 24)
  have hb0 := ((Blk.new w 24 #[.string T.name, .int .i64 T.tracks, .slice A T.labels.length c] rfl).alloc (.cells #[.int .i64 id, .int .i64 unit] 26)).alloc (.cells #[.string ⟨#[]⟩, .int .i64 0, .slice none 0 0] 24)
  have hrf0 := (Blk.new (w.alloc (.cells #[.string T.name, .int .i64 T.tracks, .slice A T.labels.length c] 24)) 26 #[.int .i64 id, .int .i64 unit] (n := w.heap.size + 1) (by simp)).alloc (.cells #[.string ⟨#[]⟩, .int .i64 0, .slice none 0 0] 24)
  have hz0 := Blk.new ((w.alloc (.cells #[.string T.name, .int .i64 T.tracks, .slice A T.labels.length c] 24)).alloc (.cells #[.int .i64 id, .int .i64 unit] 26)) 24 #[.string ⟨#[]⟩, .int .i64 0, .slice none 0 0] (n := w.heap.size + 1 + 1) (by simp)
  have HV := Lib.hid (valid_tab A c xs T _ (h.hold hg0) hs _ rfl)
  have HIX := Lib.hid (fun w2 (g2 : Grew w w2) k hk => cindex_any A c xs T id unit w2 (h.hold g2) hs _ rfl k hk)
  have HCL := Lib.hid (fun w2 (g2 : Grew w w2) => clone_tab A c xs T w2 (h.hold g2) hs _ rfl)
  have HNM := Lib.hid (show T.name.size ≤ 9223372036854775807 ∧ -9223372036854775808 ≤ T.tracks ∧ T.tracks ≤ 9223372036854775807 from ⟨h.name, h.tr0, h.tr1⟩)
  have HCC := Lib.hid HC
  have HG0 := Lib.hid hg0
  have HB0 := Lib.hid hb0
  have HRF := Lib.hid hrf0
  have HZ0 := Lib.hid hz0
  clear h hs HC hg0 hb0 hrf0 hz0
  rcases chgT_cases T id unit F with ⟨hv, hx⟩ | ⟨hv, hi, hx⟩ | ⟨hv, k, hk, hi, hhit, hx⟩
  · rw [hx] at hr
    injection hr with h1 h2
    subst h1; subst h2
    have HVF := Lib.hid hv
    clear hv hx
    go_enter Tryz.func90, Tryz.ntmps90
    go_wp2_with fail
    refine HV.out.mono ?_
    rintro e w1 ⟨rfl, g1⟩
    rw [HVF.out]
    have hz1 := HZ0.out.grew g1
    have z0 := hz1.cell 0
    have z1 := hz1.cell 1
    have z2 := hz1.cell 2
    have f0 := hz1.frozen 0
    have f1 := hz1.frozen 1
    have f2 := hz1.frozen 2
    have hzl := hz1.lt
    have hg1 := HG0.out.trans g1
    clear hz1 g1
    go_wp2_with fail
    refine bodyPost_ret (by first | (simp [*, results, Tryz.results90, go_sem]; rfl) | simp [*, results, Tryz.results90, go_sem]) rfl ?_
    exact ⟨none, 0, [], rfl, TabAt.zero _, by (repeat' first | (with_reducible exact Grew.refl _) | (with_reducible assumption) | (with_reducible refine Grew.alloc ?_ _) | (with_reducible refine Grew.drew ?_) | (with_reducible refine Grew.drewN ?_ _) | (with_reducible refine Grew.setRow ?_ (by first | (simp; done) | (simp; omega) | omega) _) | (with_reducible refine Grew.setCell ?_ (by first | (simp; done) | (simp; omega) | omega) _) | ((with_reducible apply Grew.trans); rotate_left; (with_reducible assumption)) | ((with_reducible apply Grew.turn); rotate_left; (with_reducible assumption); (focus (intro i hi; first | omega | (simp at hi; omega)))) | fail)⟩
  · rw [hx] at hr
    injection hr with h1 h2
    subst h1; subst h2
    have HVF := Lib.hid hv
    have HI := Lib.hid hi
    clear hv hx hi
    go_enter Tryz.func90, Tryz.ntmps90
    go_wp2_with fail
    refine HV.out.mono ?_
    rintro e w1 ⟨rfl, g1⟩
    rw [HVF.out]
    have hb1 := HB0.out.grew g1
    have b0 := hb1.cell 0
    have b1 := hb1.cell 1
    have b2 := hb1.cell 2
    have hbl := hb1.lt
    have hr1 := HRF.out.grew g1
    have r0 := hr1.cell 0
    have r1 := hr1.cell 1
    have hrl := hr1.lt
    have HG1 := Lib.hid (HG0.out.trans g1)
    have HZ1 := Lib.hid (HZ0.out.grew g1)
    clear hb1 hr1 g1
    go_wp2_with fail
    refine (HIX.out w1 HG1.out _ HI.out).mono ?_
    rintro e w2 ⟨rfl, g2⟩
    have hz1 := HZ1.out.grew g2
    have z0 := hz1.cell 0
    have z1 := hz1.cell 1
    have z2 := hz1.cell 2
    have f0 := hz1.frozen 0
    have f1 := hz1.frozen 1
    have f2 := hz1.frozen 2
    have hzl := hz1.lt
    have hg1 := HG1.out.trans g2
    clear hz1 g2 b0 b1 b2 r0 r1
    go_wp2_with fail
    refine bodyPost_ret (by first | (simp [*, results, Tryz.results90, go_sem]; rfl) | simp [*, results, Tryz.results90, go_sem]) rfl ?_
    exact ⟨none, 0, [], rfl, TabAt.zero _, by (repeat' first | (with_reducible exact Grew.refl _) | (with_reducible assumption) | (with_reducible refine Grew.alloc ?_ _) | (with_reducible refine Grew.drew ?_) | (with_reducible refine Grew.drewN ?_ _) | (with_reducible refine Grew.setRow ?_ (by first | (simp; done) | (simp; omega) | omega) _) | (with_reducible refine Grew.setCell ?_ (by first | (simp; done) | (simp; omega) | omega) _) | ((with_reducible apply Grew.trans); rotate_left; (with_reducible assumption)) | ((with_reducible apply Grew.turn); rotate_left; (with_reducible assumption); (focus (intro i hi; first | omega | (simp at hi; omega)))) | fail)⟩
  · have HVF := Lib.hid hv
    have HI := Lib.hid hi
    have HHIT := Lib.hid hhit
    obtain ⟨⟨r1, r2⟩, hF⟩ : ∃ r, F k T.labels[k] = r := ⟨_, rfl⟩
    rw [hF] at hx
    have HF := Lib.hid hF
    have hkn : (k : Int) < (T.labels.length : Int) := by omega
    clear hv hi hhit hF
    go_enter Tryz.func90, Tryz.ntmps90
    go_wp2_with fail
    refine HV.out.mono ?_
    rintro e w1 ⟨rfl, g1⟩
    rw [HVF.out]
    have hb1 := HB0.out.grew g1
    have b0 := hb1.cell 0
    have b1 := hb1.cell 1
    have b2 := hb1.cell 2
    have hbl := hb1.lt
    have hrr1 := HRF.out.grew g1
    have rr0 := hrr1.cell 0
    have rr1 := hrr1.cell 1
    have hrl := hrr1.lt
    have HG1 := Lib.hid (HG0.out.trans g1)
    have HZ1 := Lib.hid (HZ0.out.grew g1)
    have HB1 := Lib.hid hb1
    clear hb1 hrr1 g1
    go_wp2_with fail
    refine (HIX.out w1 HG1.out _ HI.out).mono ?_
    rintro e w2 ⟨rfl, g2⟩
    have hb2 := HB1.out.grew g2
    clear b0 b1 b2 rr0 rr1
    have b0 := hb2.cell 0
    have b1 := hb2.cell 1
    have b2 := hb2.cell 2
    have hbl2 := hb2.lt
    have HG2 := Lib.hid (HG1.out.trans g2)
    have HZ2 := Lib.hid (HZ1.out.grew g2)
    clear hb2 g2
    go_wp2_with fail
    refine (HCL.out w2 HG2.out).mono ?_
    rintro e w3 ⟨v, ys, rfl, hto, g3⟩
    obtain ⟨g, cap, rfl, hgb, hgs⟩ : ∃ g cap, v = .slice (some ⟨g, 0, none⟩) T.labels.length cap ∧ w2.heap.size ≤ g ∧ g < w3.heap.size := by
      rcases hto.own.form with ⟨_, h0⟩ | ⟨g, cap, hv, h1, h2, _⟩
      · have := congrArg List.length h0; rw [List.length_map, hto.len, List.length_nil] at this; omega
      · rw [List.length_map, hto.len] at hv; exact ⟨g, cap, hv, h1, h2⟩
    have hgx : Grew w3 (w3.alloc (.cells #[.string T.name, .int .i64 T.tracks, .slice (some ⟨g, 0, none⟩) T.labels.length cap] 24)) := (Grew.refl w3).alloc _
    have hg3 := HG2.out.trans g3
    have hz2 := HZ2.out.lt
    have hOut : OutAt w (w3.alloc (.cells #[.string T.name, .int .i64 T.tracks, .slice (some ⟨g, 0, none⟩) T.labels.length cap] 24)) w2.heap.size g cap w3.heap.size ys T :=
      ⟨hg3.trans hgx, by omega, hg3.size, by omega, hto.hold hgx, Blk.new w3 _ _ rfl⟩
    have HCA := Lib.hid (HCC.out _ _ _ _ _ _ k hk HHIT.out hOut)
    have hl1 : k < cap := by have := hto.own.len.2.1; omega
    have HZ3 := Lib.hid ((HZ2.out.grew g3).grew hgx)
    have HG3 := Lib.hid (hg3.trans hgx)
    have HOB := Lib.hid hOut.blk
    have hgne : ¬ w.heap.size + 1 + 1 = g := by omega
    have hxne : ¬ w3.heap.size = g := by omega
    have hzx : w.heap.size + 1 + 1 < w3.heap.size := Nat.lt_of_lt_of_le hz2 g3.size
    have hgw : w.heap.size ≤ g := by omega
    rw [HF.out] at HCA
    clear hto hgx hg3 hOut g3 b0 b1 b2
    go_wp2_with fail
    refine HCA.out.mono ?_
    rintro e w4 ⟨rfl, ⟨ys4, ht4⟩, tu4⟩
    have hz4 := HZ3.out.turned tu4 hgne
    have ho4 := HOB.out.turned tu4 hxne
    have z0 := hz4.cell 0
    have z1 := hz4.cell 1
    have z2 := hz4.cell 2
    have f0 := hz4.frozen 0
    have f1 := hz4.frozen 1
    have f2 := hz4.frozen 2
    have o0 := ho4.cell 0
    have o1 := ho4.cell 1
    have o2 := ho4.cell 2
    have hzl := hz4.lt
    have hol := ho4.lt
    have hg4 : Grew w w4 := HG3.out.turn tu4 (fun i e => by omega)
    have hap := ht4.apart hz4
    have HT4 := Lib.hid ht4
    have HAP := Lib.hid hap
    have HN4 := Lib.hid ht4.nlen
    clear hz4 ho4 tu4 ht4 hap HCA
    rcases hx with ⟨h0, hx⟩ | ⟨h0, hx⟩
    · try simp only at h0
      subst h0
      rw [hx] at hr
      injection hr with h1 h2
      subst h2
      have HT' := Lib.hid h1
      clear hx h1
      go_wp2_with fail
      refine bodyPost_ret (by first | (simp [*, results, Tryz.results90, go_sem]; rfl) | simp [*, results, Tryz.results90, go_sem]) rfl ?_
      refine ⟨some ⟨g, 0, none⟩, cap, ys4, by rw [← HT'.out]; simp only [HN4.out], ?_, by (repeat' first | (with_reducible exact Grew.refl _) | (with_reducible assumption) | (with_reducible refine Grew.alloc ?_ _) | (with_reducible refine Grew.drew ?_) | (with_reducible refine Grew.drewN ?_ _) | (with_reducible refine Grew.setRow ?_ (by first | (simp; done) | (simp; omega) | omega) _) | (with_reducible refine Grew.setCell ?_ (by first | (simp; done) | (simp; omega) | omega) _) | ((with_reducible apply Grew.trans); rotate_left; (with_reducible assumption)) | ((with_reducible apply Grew.turn); rotate_left; (with_reducible assumption); (focus (intro i hi; first | omega | (simp at hi; omega)))) | fail)⟩
      rw [← HT'.out]
      exact (HT4.out.turned (S := fun k => k = w.heap.size + 1 + 1) (by (repeat' first | (with_reducible exact Turned.refl _ _) | (with_reducible assumption) | (with_reducible refine Turned.alloc ?_ _) | (with_reducible refine Turned.drew ?_) | (with_reducible refine Turned.drewN ?_ _) | (with_reducible refine Turned.setRow ?_ (by first | (simp; done) | (simp; omega) | omega) _) | (with_reducible refine Turned.setCell ?_ (by first | (simp; done) | (simp; omega) | omega) _) | ((with_reducible apply Turned.andGrew); rotate_left; (with_reducible assumption)) | ((with_reducible apply Turned.trans); rotate_left; (with_reducible assumption)) | fail)) (fun g' e => by have e' : g = g' := Option.some.inj e; omega) (fun y hy h0 b off e => HAP.out y hy h0 b off e)).tabAt _ _ HNM.out.1 HNM.out.2.1 HNM.out.2.2
    · try simp only at h0 hx
      rw [hx] at hr
      injection hr with h1 h2
      subst h1; subst h2
      have hne : (r2 != 0) = true := by rw [bne_iff_ne]; exact h0
      clear hx h0
      go_wp2_with fail
      refine bodyPost_ret (by first | (simp [*, results, Tryz.results90, go_sem]; rfl) | simp [*, results, Tryz.results90, go_sem]) rfl ?_
      exact ⟨none, 0, [], rfl, TabAt.zero _, by (repeat' first | (with_reducible exact Grew.refl _) | (with_reducible assumption) | (with_reducible refine Grew.alloc ?_ _) | (with_reducible refine Grew.drew ?_) | (with_reducible refine Grew.drewN ?_ _) | (with_reducible refine Grew.setRow ?_ (by first | (simp; done) | (simp; omega) | omega) _) | (with_reducible refine Grew.setCell ?_ (by first | (simp; done) | (simp; omega) | omega) _) | ((with_reducible apply Grew.trans); rotate_left; (with_reducible assumption)) | ((with_reducible apply Grew.turn); rotate_left; (with_reducible assumption); (focus (intro i hi; first | omega | (simp at hi; omega)))) | fail)⟩
set_option maxRecDepth 100000 in
set_option maxHeartbeats 8000000 in
theorem change_rem (h : TabAt w A c xs T) (hs : SmallT T) (F : Nat → Lab → List Lab × Int)
    (HC : ∀ (w1 : World) (base g cap xo : Nat) (ys : List LabE) (k : Nat) (hk : k < T.labels.length), hitL id unit T.labels[k] = true → OutAt w w1 base g cap xo ys T → Calls Tryz.prog 121 #[.pointer (some ⟨g, k * 5, none⟩), .pointer (some ⟨xo, 0, none⟩)] w1 (ChgR w1 base g cap T.labels.length (F k T.labels[k])))
    (T' : Tab) (er : Int) (hr : chgT T id unit F = (T', er)) :
    Calls Tryz.prog 90 #[.agg #[.string T.name, .int .i64 T.tracks, .slice A T.labels.length c], .agg #[.int .i64 id, .int .i64 unit], .func (.func 121) #[] #[]] w (TabR w T' er) := by
  have hg0 := (((Grew.refl w).alloc (.cells #[.string T.name, .int .i64 T.tracks, .slice A T.labels.length c] 24)).alloc (.cells #[.int .i64 id, .int .i64 unit] 26)).alloc (.cells #[.string ⟨#[]⟩, .int .i64 0, .slice none 0 0] 24)
  have hb0 := ((Blk.new w 24 #[.string T.name, .int .i64 T.tracks, .slice A T.labels.length c] rfl).alloc (.cells #[.int .i64 id, .int .i64 unit] 26)).alloc (.cells #[.string ⟨#[]⟩, .int .i64 0, .slice none 0 0] 24)
  have hrf0 := (Blk.new (w.alloc (.cells #[.string T.name, .int .i64 T.tracks, .slice A T.labels.length c] 24)) 26 #[.int .i64 id, .int .i64 unit] (n := w.heap.size + 1) (by simp)).alloc (.cells #[.string ⟨#[]⟩, .int .i64 0, .slice none 0 0] 24)
  have hz0 := Blk.new ((w.alloc (.cells #[.string T.name, .int .i64 T.tracks, .slice A T.labels.length c] 24)).alloc (.cells #[.int .i64 id, .int .i64 unit] 26)) 24 #[.string ⟨#[]⟩, .int .i64 0, .slice none 0 0] (n := w.heap.size + 1 + 1) (by simp)
  have HV := Lib.hid (valid_tab A c xs T _ (h.hold hg0) hs _ rfl)
  have HIX := Lib.hid (fun w2 (g2 : Grew w w2) k hk => cindex_any A c xs T id unit w2 (h.hold g2) hs _ rfl k hk)
  have HCL := Lib.hid (fun w2 (g2 : Grew w w2) => clone_tab A c xs T w2 (h.hold g2) hs _ rfl)
  have HNM := Lib.hid (show T.name.size ≤ 9223372036854775807 ∧ -9223372036854775808 ≤ T.tracks ∧ T.tracks ≤ 9223372036854775807 from ⟨h.name, h.tr0, h.tr1⟩)
  have HCC := Lib.hid HC
  have HG0 := Lib.hid hg0
  have HB0 := Lib.hid hb0
  have HRF := Lib.hid hrf0
  have HZ0 := Lib.hid hz0
  clear h hs HC hg0 hb0 hrf0 hz0
  rcases chgT_cases T id unit F with ⟨hv, hx⟩ | ⟨hv, hi, hx⟩ | ⟨hv, k, hk, hi, hhit, hx⟩
  · rw [hx] at hr
    injection hr with h1 h2
    subst h1; subst h2
    have HVF := Lib.hid hv
    clear hv hx
    go_enter Tryz.func90, Tryz.ntmps90
    go_wp2_with fail
    refine HV.out.mono ?_
    rintro e w1 ⟨rfl, g1⟩
    rw [HVF.out]
    have hz1 := HZ0.out.grew g1
    have z0 := hz1.cell 0
    have z1 := hz1.cell 1
    have z2 := hz1.cell 2
    have f0 := hz1.frozen 0
    have f1 := hz1.frozen 1
    have f2 := hz1.frozen 2
    have hzl := hz1.lt
    have hg1 := HG0.out.trans g1
    clear hz1 g1
    go_wp2_with fail
    refine bodyPost_ret (by first | (simp [*, results, Tryz.results90, go_sem]; rfl) | simp [*, results, Tryz.results90, go_sem]) rfl ?_
    exact ⟨none, 0, [], rfl, TabAt.zero _, by (repeat' first | (with_reducible exact Grew.refl _) | (with_reducible assumption) | (with_reducible refine Grew.alloc ?_ _) | (with_reducible refine Grew.drew ?_) | (with_reducible refine Grew.drewN ?_ _) | (with_reducible refine Grew.setRow ?_ (by first | (simp; done) | (simp; omega) | omega) _) | (with_reducible refine Grew.setCell ?_ (by first | (simp; done) | (simp; omega) | omega) _) | ((with_reducible apply Grew.trans); rotate_left; (with_reducible assumption)) | ((with_reducible apply Grew.turn); rotate_left; (with_reducible assumption); (focus (intro i hi; first | omega | (simp at hi; omega)))) | fail)⟩
  · rw [hx] at hr
    injection hr with h1 h2
    subst h1; subst h2
    have HVF := Lib.hid hv
    have HI := Lib.hid hi
    clear hv hx hi
    go_enter Tryz.func90, Tryz.ntmps90
    go_wp2_with fail
    refine HV.out.mono ?_
    rintro e w1 ⟨rfl, g1⟩
    rw [HVF.out]
    have hb1 := HB0.out.grew g1
    have b0 := hb1.cell 0
    have b1 := hb1.cell 1
    have b2 := hb1.cell 2
    have hbl := hb1.lt
    have hr1 := HRF.out.grew g1
    have r0 := hr1.cell 0
    have r1 := hr1.cell 1
    have hrl := hr1.lt
    have HG1 := Lib.hid (HG0.out.trans g1)
    have HZ1 := Lib.hid (HZ0.out.grew g1)
    clear hb1 hr1 g1
    go_wp2_with fail
    refine (HIX.out w1 HG1.out _ HI.out).mono ?_
    rintro e w2 ⟨rfl, g2⟩
    have hz1 := HZ1.out.grew g2
    have z0 := hz1.cell 0
    have z1 := hz1.cell 1
    have z2 := hz1.cell 2
    have f0 := hz1.frozen 0
    have f1 := hz1.frozen 1
    have f2 := hz1.frozen 2
    have hzl := hz1.lt
    have hg1 := HG1.out.trans g2
    clear hz1 g2 b0 b1 b2 r0 r1
    go_wp2_with fail
    refine bodyPost_ret (by first | (simp [*, results, Tryz.results90, go_sem]; rfl) | simp [*, results, Tryz.results90, go_sem]) rfl ?_
    exact ⟨none, 0, [], rfl, TabAt.zero _, by (repeat' first | (with_reducible exact Grew.refl _) | (with_reducible assumption) | (with_reducible refine Grew.alloc ?_ _) | (with_reducible refine Grew.drew ?_) | (with_reducible refine Grew.drewN ?_ _) | (with_reducible refine Grew.setRow ?_ (by first | (simp; done) | (simp; omega) | omega) _) | (with_reducible refine Grew.setCell ?_ (by first | (simp; done) | (simp; omega) | omega) _) | ((with_reducible apply Grew.trans); rotate_left; (with_reducible assumption)) | ((with_reducible apply Grew.turn); rotate_left; (with_reducible assumption); (focus (intro i hi; first | omega | (simp at hi; omega)))) | fail)⟩
  · have HVF := Lib.hid hv
    have HI := Lib.hid hi
    have HHIT := Lib.hid hhit
    obtain ⟨⟨r1, r2⟩, hF⟩ : ∃ r, F k T.labels[k] = r := ⟨_, rfl⟩
    rw [hF] at hx
    have HF := Lib.hid hF
    have hkn : (k : Int) < (T.labels.length : Int) := by omega
    clear hv hi hhit hF
    go_enter Tryz.func90, Tryz.ntmps90
    go_wp2_with fail
    refine HV.out.mono ?_
    rintro e w1 ⟨rfl, g1⟩
    rw [HVF.out]
    have hb1 := HB0.out.grew g1
    have b0 := hb1.cell 0
    have b1 := hb1.cell 1
    have b2 := hb1.cell 2
    have hbl := hb1.lt
    have hrr1 := HRF.out.grew g1
    have rr0 := hrr1.cell 0
    have rr1 := hrr1.cell 1
    have hrl := hrr1.lt
    have HG1 := Lib.hid (HG0.out.trans g1)
    have HZ1 := Lib.hid (HZ0.out.grew g1)
    have HB1 := Lib.hid hb1
    clear hb1 hrr1 g1
    go_wp2_with fail
    refine (HIX.out w1 HG1.out _ HI.out).mono ?_
    rintro e w2 ⟨rfl, g2⟩
    have hb2 := HB1.out.grew g2
    clear b0 b1 b2 rr0 rr1
    have b0 := hb2.cell 0
    have b1 := hb2.cell 1
    have b2 := hb2.cell 2
    have hbl2 := hb2.lt
    have HG2 := Lib.hid (HG1.out.trans g2)
    have HZ2 := Lib.hid (HZ1.out.grew g2)
    clear hb2 g2
    go_wp2_with fail
    refine (HCL.out w2 HG2.out).mono ?_
    rintro e w3 ⟨v, ys, rfl, hto, g3⟩
    obtain ⟨g, cap, rfl, hgb, hgs⟩ : ∃ g cap, v = .slice (some ⟨g, 0, none⟩) T.labels.length cap ∧ w2.heap.size ≤ g ∧ g < w3.heap.size := by
      rcases hto.own.form with ⟨_, h0⟩ | ⟨g, cap, hv, h1, h2, _⟩
      · have := congrArg List.length h0; rw [List.length_map, hto.len, List.length_nil] at this; omega
      · rw [List.length_map, hto.len] at hv; exact ⟨g, cap, hv, h1, h2⟩
    have hgx : Grew w3 (w3.alloc (.cells #[.string T.name, .int .i64 T.tracks, .slice (some ⟨g, 0, none⟩) T.labels.length cap] 24)) := (Grew.refl w3).alloc _
    have hg3 := HG2.out.trans g3
    have hz2 := HZ2.out.lt
    have hOut : OutAt w (w3.alloc (.cells #[.string T.name, .int .i64 T.tracks, .slice (some ⟨g, 0, none⟩) T.labels.length cap] 24)) w2.heap.size g cap w3.heap.size ys T :=
      ⟨hg3.trans hgx, by omega, hg3.size, by omega, hto.hold hgx, Blk.new w3 _ _ rfl⟩
    have HCA := Lib.hid (HCC.out _ _ _ _ _ _ k hk HHIT.out hOut)
    have hl1 : k < cap := by have := hto.own.len.2.1; omega
    have HZ3 := Lib.hid ((HZ2.out.grew g3).grew hgx)
    have HG3 := Lib.hid (hg3.trans hgx)
    have HOB := Lib.hid hOut.blk
    have hgne : ¬ w.heap.size + 1 + 1 = g := by omega
    have hxne : ¬ w3.heap.size = g := by omega
    have hzx : w.heap.size + 1 + 1 < w3.heap.size := Nat.lt_of_lt_of_le hz2 g3.size
    have hgw : w.heap.size ≤ g := by omega
    rw [HF.out] at HCA
    clear hto hgx hg3 hOut g3 b0 b1 b2
    go_wp2_with fail
    refine HCA.out.mono ?_
    rintro e w4 ⟨rfl, ⟨ys4, ht4⟩, tu4⟩
    have hz4 := HZ3.out.turned tu4 hgne
    have ho4 := HOB.out.turned tu4 hxne
    have z0 := hz4.cell 0
    have z1 := hz4.cell 1
    have z2 := hz4.cell 2
    have f0 := hz4.frozen 0
    have f1 := hz4.frozen 1
    have f2 := hz4.frozen 2
    have o0 := ho4.cell 0
    have o1 := ho4.cell 1
    have o2 := ho4.cell 2
    have hzl := hz4.lt
    have hol := ho4.lt
    have hg4 : Grew w w4 := HG3.out.turn tu4 (fun i e => by omega)
    have hap := ht4.apart hz4
    have HT4 := Lib.hid ht4
    have HAP := Lib.hid hap
    have HN4 := Lib.hid ht4.nlen
    clear hz4 ho4 tu4 ht4 hap HCA
    rcases hx with ⟨h0, hx⟩ | ⟨h0, hx⟩
    · try simp only at h0
      subst h0
      rw [hx] at hr
      injection hr with h1 h2
      subst h2
      have HT' := Lib.hid h1
      clear hx h1
      go_wp2_with fail
      refine bodyPost_ret (by first | (simp [*, results, Tryz.results90, go_sem]; rfl) | simp [*, results, Tryz.results90, go_sem]) rfl ?_
      refine ⟨some ⟨g, 0, none⟩, cap, ys4, by rw [← HT'.out]; simp only [HN4.out], ?_, by (repeat' first | (with_reducible exact Grew.refl _) | (with_reducible assumption) | (with_reducible refine Grew.alloc ?_ _) | (with_reducible refine Grew.drew ?_) | (with_reducible refine Grew.drewN ?_ _) | (with_reducible refine Grew.setRow ?_ (by first | (simp; done) | (simp; omega) | omega) _) | (with_reducible refine Grew.setCell ?_ (by first | (simp; done) | (simp; omega) | omega) _) | ((with_reducible apply Grew.trans); rotate_left; (with_reducible assumption)) | ((with_reducible apply Grew.turn); rotate_left; (with_reducible assumption); (focus (intro i hi; first | omega | (simp at hi; omega)))) | fail)⟩
      rw [← HT'.out]
      exact (HT4.out.turned (S := fun k => k = w.heap.size + 1 + 1) (by (repeat' first | (with_reducible exact Turned.refl _ _) | (with_reducible assumption) | (with_reducible refine Turned.alloc ?_ _) | (with_reducible refine Turned.drew ?_) | (with_reducible refine Turned.drewN ?_ _) | (with_reducible refine Turned.setRow ?_ (by first | (simp; done) | (simp; omega) | omega) _) | (with_reducible refine Turned.setCell ?_ (by first | (simp; done) | (simp; omega) | omega) _) | ((with_reducible apply Turned.andGrew); rotate_left; (with_reducible assumption)) | ((with_reducible apply Turned.trans); rotate_left; (with_reducible assumption)) | fail)) (fun g' e => by have e' : g = g' := Option.some.inj e; omega) (fun y hy h0 b off e => HAP.out y hy h0 b off e)).tabAt _ _ HNM.out.1 HNM.out.2.1 HNM.out.2.2
    · try simp only at h0 hx
      rw [hx] at hr
      injection hr with h1 h2
      subst h1; subst h2
      have hne : (r2 != 0) = true := by rw [bne_iff_ne]; exact h0
      clear hx h0
      go_wp2_with fail
      refine bodyPost_ret (by first | (simp [*, results, Tryz.results90, go_sem]; rfl) | simp [*, results, Tryz.results90, go_sem]) rfl ?_
      exact ⟨none, 0, [], rfl, TabAt.zero _, by (repeat' first | (with_reducible exact Grew.refl _) | (with_reducible assumption) | (with_reducible refine Grew.alloc ?_ _) | (with_reducible refine Grew.drew ?_) | (with_reducible refine Grew.drewN ?_ _) | (with_reducible refine Grew.setRow ?_ (by first | (simp; done) | (simp; omega) | omega) _) | (with_reducible refine Grew.setCell ?_ (by first | (simp; done) | (simp; omega) | omega) _) | ((with_reducible apply Grew.trans); rotate_left; (with_reducible assumption)) | ((with_reducible apply Grew.turn); rotate_left; (with_reducible assumption); (focus (intro i hi; first | omega | (simp at hi; omega)))) | fail)⟩
end
end Go.Proofs.YtnlaogneceanoaaGreat
