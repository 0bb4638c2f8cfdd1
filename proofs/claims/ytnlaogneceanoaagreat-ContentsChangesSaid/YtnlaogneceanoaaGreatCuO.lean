/- Chapter 8: Same, on both sides. Chapter 8: SameRefs for one list; Same of a table and itself; a reference as an argument. Chapter 8: a change as an argument; Small; the changes' results are small. Chapter 8: ContentsChanges. -/
import Derived.Test.YtnlaogneceanoaaGreatCuB
import Derived.Test.YtnlaogneceanoaaGreatCuG
import Derived.Test.YtnlaogneceanoaaGreatCuH
import Derived.Test.YtnlaogneceanoaaGreatCuI
import Derived.Test.YtnlaogneceanoaaGreatCuK
import Derived.Test.YtnlaogneceanoaaGreatCuN
namespace Go.Proofs.YtnlaogneceanoaaGreat
set_option linter.unusedVariables false
set_option linter.unusedSimpArgs false
set_option linter.unusedSectionVars false
open Go.RowKit
attribute [local go_sem ↓] Go.wp_at_zero Go.wp_at_succ
instance : DecidableEq Lab := fun a b => decidable_of_iff (eqL a b = true) (eqL_iff a b)
def sameT (T U : Tab) : Bool := (T.name.toList == U.name.toList) && ((T.tracks == U.tracks) && decide (T.labels = U.labels))
theorem labs_len {ls ms : List Lab} (h : ls.length ≠ ms.length) : decide (ls = ms) = false := decide_eq_false (fun e => h (by rw [e]))
theorem labs_ne {ls ms : List Lab} (k : Nat) (h1 : k < ls.length) (h2 : k < ms.length) (h : eqL ls[k] ms[k] = false) : decide (ls = ms) = false := decide_eq_false (fun e => by
  subst e
  rw [(eqL_iff _ _).2 rfl] at h
  cases h)
theorem labs_eq {ls ms : List Lab} (hl : ls.length = ms.length) (h : ∀ j (h1 : j < ls.length) (h2 : j < ms.length), eqL ls[j] ms[j] = true) : decide (ls = ms) = true :=
  decide_eq_true (List.ext_getElem hl (fun j h1 h2 => (eqL_iff _ _).1 (h j h1 h2)))
section
variable (A A2 : Option Addr) (c c2 : Nat) (xs ys : List LabE) (T U : Tab) (w : World)
set_option maxRecDepth 100000 in
set_option maxHeartbeats 8000000 in
theorem rsame_tab (h : TabAt w A c xs T) (hs : SmallT T) (h2 : TabAt w A2 c2 ys U) (hs2 : SmallT U) (r : Bool) (hr : sameT T U = r) :
    Calls Tryz.prog 20 #[.agg #[.string T.name, .int .i64 T.tracks, .slice A T.labels.length c], .agg #[.string U.name, .int .i64 U.tracks, .slice A2 U.labels.length c2]] w fun e w' => e = .returned (.bool r) ∧ Grew w w' := by
  subst hr
  have hg0 := ((Grew.refl w).alloc (.cells #[.string T.name, .int .i64 T.tracks, .slice A T.labels.length c] 24)).alloc (.cells #[.string U.name, .int .i64 U.tracks, .slice A2 U.labels.length c2] 24)
  have hb0 := (Blk.new w 24 #[.string T.name, .int .i64 T.tracks, .slice A T.labels.length c] rfl).alloc (.cells #[.string U.name, .int .i64 U.tracks, .slice A2 U.labels.length c2] 24)
  have hu0 := Blk.new (w.alloc (.cells #[.string T.name, .int .i64 T.tracks, .slice A T.labels.length c] 24)) 24 #[.string U.name, .int .i64 U.tracks, .slice A2 U.labels.length c2] (n := w.heap.size + 1) (by simp)
  have HE := Lib.hid (show sameT T U = ((T.name.toList == U.name.toList) && ((T.tracks == U.tracks) && decide (T.labels = U.labels))) from rfl)
  have HT := Lib.hid h
  have HU := Lib.hid h2
  have HS := Lib.hid hs
  have HS2 := Lib.hid hs2
  have hlen := hs.len
  have hlen2 := hs2.len
  clear h h2 hs hs2
  cases b1 : (T.name.toList == U.name.toList) with
  | false =>
    have HB := Lib.hid b1
    clear hb0 hu0
    go_enter Tryz.func20, Tryz.ntmps20
    go_wp2_with fail
    go_ret
    exact ⟨ret_bool (by rw [HE.out, HB.out]; rfl), hg0⟩
  | true =>
  have HB := Lib.hid b1
  cases b2 : (T.tracks == U.tracks) with
  | false =>
    have HB2 := Lib.hid b2
    have b2' := neq_bne _ _ b2
    clear hb0 hu0
    go_enter Tryz.func20, Tryz.ntmps20
    go_wp2_with fail
    go_ret
    exact ⟨ret_bool (by rw [HE.out, HB.out, HB2.out]; rfl), hg0⟩
  | true =>
  have HB2 := Lib.hid b2
  have b2' := neq_beq _ _ b2
  by_cases hl : T.labels.length = U.labels.length
  rotate_left
  · have HF := Lib.hid (labs_len hl)
    have hb : ((T.labels.length : Int) != (U.labels.length : Int)) = true := by rw [bne_iff_ne]; omega
    clear hl hb0 hu0
    go_enter Tryz.func20, Tryz.ntmps20
    go_wp2_with fail
    go_ret
    exact ⟨ret_bool (by rw [HE.out, HB.out, HB2.out, HF.out]; rfl), hg0⟩
  have hb : ((T.labels.length : Int) != (U.labels.length : Int)) = false := by rw [bne_eq_false_iff_eq]; omega
  have HL := Lib.hid hl
  clear hl
  have x2 := hb0.cell 2
  go_enter Tryz.func20, Tryz.ntmps20
  go_wp2_with fail
  go_loopg [5] T.labels.length (fun gk i wr => ∃ k : Nat, k ≤ T.labels.length ∧ gk = T.labels.length - k ∧ i = .int .i64 k ∧ (∀ j (h1 : j < T.labels.length) (h2 : j < U.labels.length), j < k → eqL T.labels[j] U.labels[j] = true) ∧ Blk wr w.heap.size 24 #[.string T.name, .int .i64 T.tracks, .slice A T.labels.length c] ∧ Blk wr (w.heap.size + 1) 24 #[.string U.name, .int .i64 U.tracks, .slice A2 U.labels.length c2] ∧ Grew w wr)
  case atStart => exact ⟨0, by omega, by omega, rfl, fun j _ _ h => by omega, hb0, hu0, hg0⟩
  case round =>
    obtain ⟨k, hk, hgk, rfl, hall, hbb, hub, hg⟩ := hrel
    have HGK := Lib.hid hgk
    have HA := Lib.hid hall
    have HG := Lib.hid hg
    have HBB := Lib.hid hbb
    have HUB := Lib.hid hub
    clear hgk hall x2 hb0 hu0 hg0 b1 b2 b2' hb
    have x2 := hbb.cell 2
    have hbl0 := hbb.lt
    have hul0 := hub.lt
    by_cases hlt : k < T.labels.length
    · have hlu : k < U.labels.length := by rw [← HL.out]; exact hlt
      obtain ⟨b, off, B, d, l, rfl, hbl, hxk, hv, hla, c0, c1, c2', c3, c4⟩ := (HT.out.hold hg).at_ hlt
      obtain ⟨b2, off2, B2, d2, m, rfl, hbl2, hxk2, hv2, hla2, m0, m1, m2, m3, m4⟩ := (HU.out.hold hg).at_ hlu
      have hle := HS.out.ext T.labels[k] (List.getElem_mem hlt)
      have hle2 := HS2.out.ext U.labels[k] (List.getElem_mem hlu)
      rw [hv] at hle
      rw [hv2] at hle2
      have HC := Lib.hid (requal_any B B2 d d2 l m _ (hla.hold (Grew.refl wr).drew) (hla2.hold (Grew.refl wr).drew) (by omega) (by omega))
      have HV := Lib.hid hv
      have HV2 := Lib.hid hv2
      have hS : (fun w' : World => w'.cell? ⟨w.heap.size, 2, none⟩ = some (.slice (some ⟨b, off, none⟩) T.labels.length c) ∧ w'.cell? ⟨w.heap.size + 1, 2, none⟩ = some (.slice (some ⟨b2, off2, none⟩) U.labels.length c2) ∧ w'.cell? ⟨b, off + k * 5, none⟩ = some (.int .i64 l.id) ∧ w'.cell? ⟨b, off + k * 5 + 1, none⟩ = some (.int .i64 l.unit) ∧ w'.cell? ⟨b, off + k * 5 + 2, none⟩ = some (.string l.name) ∧ w'.cell? ⟨b, off + k * 5 + 3, none⟩ = some (.string l.note) ∧ w'.cell? ⟨b, off + k * 5 + 4, none⟩ = some (.slice B l.ext.length d) ∧ w'.cell? ⟨b2, off2 + k * 5, none⟩ = some (.int .i64 m.id) ∧ w'.cell? ⟨b2, off2 + k * 5 + 1, none⟩ = some (.int .i64 m.unit) ∧ w'.cell? ⟨b2, off2 + k * 5 + 2, none⟩ = some (.string m.name) ∧ w'.cell? ⟨b2, off2 + k * 5 + 3, none⟩ = some (.string m.note) ∧ w'.cell? ⟨b2, off2 + k * 5 + 4, none⟩ = some (.slice B2 m.ext.length d2)) wr.drew := ⟨hbb.drew.cell 2, hub.drew.cell 2, c0, c1, c2', c3, c4, m0, m1, m2, m3, m4⟩
      have HSG := Lib.hid (show ∀ w1 : World, Grew wr.drew w1 → (fun w' : World => w'.cell? ⟨w.heap.size, 2, none⟩ = some (.slice (some ⟨b, off, none⟩) T.labels.length c) ∧ w'.cell? ⟨w.heap.size + 1, 2, none⟩ = some (.slice (some ⟨b2, off2, none⟩) U.labels.length c2) ∧ w'.cell? ⟨b, off + k * 5, none⟩ = some (.int .i64 l.id) ∧ w'.cell? ⟨b, off + k * 5 + 1, none⟩ = some (.int .i64 l.unit) ∧ w'.cell? ⟨b, off + k * 5 + 2, none⟩ = some (.string l.name) ∧ w'.cell? ⟨b, off + k * 5 + 3, none⟩ = some (.string l.note) ∧ w'.cell? ⟨b, off + k * 5 + 4, none⟩ = some (.slice B l.ext.length d) ∧ w'.cell? ⟨b2, off2 + k * 5, none⟩ = some (.int .i64 m.id) ∧ w'.cell? ⟨b2, off2 + k * 5 + 1, none⟩ = some (.int .i64 m.unit) ∧ w'.cell? ⟨b2, off2 + k * 5 + 2, none⟩ = some (.string m.name) ∧ w'.cell? ⟨b2, off2 + k * 5 + 3, none⟩ = some (.string m.note) ∧ w'.cell? ⟨b2, off2 + k * 5 + 4, none⟩ = some (.slice B2 m.ext.length d2)) w1 from fun w1 g1 => by
        have e1 := fun o => g1.cellEq w.heap.size o hbl0
        have e2 := fun o => g1.cellEq (w.heap.size + 1) o hul0
        have e3 := fun o => g1.cellEq b o hbl
        have e4 := fun o => g1.cellEq b2 o hbl2
        simp only [e1, e2, e3, e4]
        exact hS)
      clear hv hv2 hxk hxk2 hla hla2 hbb hub hg
      go_wp2_with fail
      refine wp_region_R [] (fun w' : World => w'.cell? ⟨w.heap.size, 2, none⟩ = some (.slice (some ⟨b, off, none⟩) T.labels.length c) ∧ w'.cell? ⟨w.heap.size + 1, 2, none⟩ = some (.slice (some ⟨b2, off2, none⟩) U.labels.length c2) ∧ w'.cell? ⟨b, off + k * 5, none⟩ = some (.int .i64 l.id) ∧ w'.cell? ⟨b, off + k * 5 + 1, none⟩ = some (.int .i64 l.unit) ∧ w'.cell? ⟨b, off + k * 5 + 2, none⟩ = some (.string l.name) ∧ w'.cell? ⟨b, off + k * 5 + 3, none⟩ = some (.string l.note) ∧ w'.cell? ⟨b, off + k * 5 + 4, none⟩ = some (.slice B l.ext.length d) ∧ w'.cell? ⟨b2, off2 + k * 5, none⟩ = some (.int .i64 m.id) ∧ w'.cell? ⟨b2, off2 + k * 5 + 1, none⟩ = some (.int .i64 m.unit) ∧ w'.cell? ⟨b2, off2 + k * 5 + 2, none⟩ = some (.string m.name) ∧ w'.cell? ⟨b2, off2 + k * 5 + 3, none⟩ = some (.string m.note) ∧ w'.cell? ⟨b2, off2 + k * 5 + 4, none⟩ = some (.slice B2 m.ext.length d2)) (by kernel_rfl) ?_
      refine wpAnyR_takeQ (i := 0) (v := ?_) (some 34) rfl rfl (by kernel_rfl) (by kernel_rfl) (by kernel_rfl) (by kernel_rfl) (fun _ _ _ h => h) (Or.inl ⟨by rfl, ?_⟩) ?_
      rotate_left
      focus (intro wS hSw; (try dsimp only at hSw); go_simp; (try with_reducible rfl); (try (first | (rw [if_pos (by omega)]; (try go_simp); (try with_reducible rfl)) | (rw [if_neg (by omega)]; (try go_simp); (try with_reducible rfl)))))
      try simp only [Act.put, zA, zB, zC]
      refine wpAnyR_take (i := 1) (v := ?_) [3, 4, 10, 11] (some 35) rfl rfl (by kernel_rfl) (by kernel_rfl) (by kernel_rfl) (by kernel_rfl) (by kernel_rfl) (by kernel_rfl) (by kernel_rfl) (fun _ _ _ h => h) (Or.inl ⟨by rfl, ?_⟩) hS ?_
      rotate_left
      focus (intro wS hSw; (try dsimp only at hSw); go_simp; (try with_reducible rfl); (try (first | (rw [if_pos (by omega)]; (try go_simp); (try with_reducible rfl)) | (rw [if_neg (by omega)]; (try go_simp); (try with_reducible rfl)))))
      try simp only [Act.put, zA, zB, zC]
      refine wpAnyR_takeQ (i := 2) (v := ?_) (some 36) rfl rfl (by kernel_rfl) (by kernel_rfl) (by kernel_rfl) (by kernel_rfl) (fun _ _ _ h => h) (Or.inl ⟨by rfl, ?_⟩) ?_
      rotate_left
      focus (intro wS hSw; (try dsimp only at hSw); go_simp; (try with_reducible rfl); (try (first | (rw [if_pos (by omega)]; (try go_simp); (try with_reducible rfl)) | (rw [if_neg (by omega)]; (try go_simp); (try with_reducible rfl)))))
      try simp only [Act.put, zA, zB, zC]
      refine wpAnyR_takeQ (i := 3) (v := ?_) (some 37) rfl rfl (by kernel_rfl) (by kernel_rfl) (by kernel_rfl) (by kernel_rfl) (fun _ _ _ h => h) (Or.inl ⟨by rfl, ?_⟩) ?_
      rotate_left
      focus (intro wS hSw; (try dsimp only at hSw); go_simp; (try with_reducible rfl); (try (first | (rw [if_pos (by omega)]; (try go_simp); (try with_reducible rfl)) | (rw [if_neg (by omega)]; (try go_simp); (try with_reducible rfl)))))
      try simp only [Act.put, zA, zB, zC]
      refine wpAnyR_take (i := 4) (v := ?_) [10, 11] (some 38) rfl rfl (by kernel_rfl) (by kernel_rfl) (by kernel_rfl) (by kernel_rfl) (by kernel_rfl) (by kernel_rfl) (by kernel_rfl) (fun _ _ _ h => h) (Or.inl ⟨by rfl, ?_⟩) hS ?_
      rotate_left
      focus (intro wS hSw; (try dsimp only at hSw); go_simp; (try with_reducible rfl); (try (first | (rw [if_pos (by omega)]; (try go_simp); (try with_reducible rfl)) | (rw [if_neg (by omega)]; (try go_simp); (try with_reducible rfl)))))
      try simp only [Act.put, zA, zB, zC]
      refine wpAnyR_takeQ (i := 5) (v := ?_) (some 39) rfl rfl (by kernel_rfl) (by kernel_rfl) (by kernel_rfl) (by kernel_rfl) (fun _ _ _ h => h) (Or.inl ⟨by rfl, ?_⟩) ?_
      rotate_left
      focus (intro wS hSw; (try dsimp only at hSw); go_simp; (try with_reducible rfl); (try (first | (rw [if_pos (by omega)]; (try go_simp); (try with_reducible rfl)) | (rw [if_neg (by omega)]; (try go_simp); (try with_reducible rfl)))))
      try simp only [Act.put, zA, zB, zC]
      refine wpAnyR_take (i := 6) (v := ?_) [8, 9, 10, 11] (some 40) rfl rfl (by kernel_rfl) (by kernel_rfl) (by kernel_rfl) (by kernel_rfl) (by kernel_rfl) (by kernel_rfl) (by kernel_rfl) (fun _ _ _ h => h) (Or.inl ⟨by rfl, ?_⟩) hS ?_
      rotate_left
      focus (intro wS hSw; (try dsimp only at hSw); go_simp; (try with_reducible rfl); (try (first | (rw [if_pos (by omega)]; (try go_simp); (try with_reducible rfl)) | (rw [if_neg (by omega)]; (try go_simp); (try with_reducible rfl)))))
      try simp only [Act.put, zA, zB, zC]
      refine wpAnyR_takeQ (i := 7) (v := ?_) (some 41) rfl rfl (by kernel_rfl) (by kernel_rfl) (by kernel_rfl) (by kernel_rfl) (fun _ _ _ h => h) (Or.inl ⟨by rfl, ?_⟩) ?_
      rotate_left
      focus (intro wS hSw; (try dsimp only at hSw); go_simp; (try with_reducible rfl); (try (first | (rw [if_pos (by omega)]; (try go_simp); (try with_reducible rfl)) | (rw [if_neg (by omega)]; (try go_simp); (try with_reducible rfl)))))
      try simp only [Act.put, zA, zB, zC]
      refine wpAnyR_takeQ (i := 8) (v := ?_) (some 42) rfl rfl (by kernel_rfl) (by kernel_rfl) (by kernel_rfl) (by kernel_rfl) (fun _ _ _ h => h) (Or.inl ⟨by rfl, ?_⟩) ?_
      rotate_left
      focus (intro wS hSw; (try dsimp only at hSw); go_simp; (try with_reducible rfl); (try (first | (rw [if_pos (by omega)]; (try go_simp); (try with_reducible rfl)) | (rw [if_neg (by omega)]; (try go_simp); (try with_reducible rfl)))))
      try simp only [Act.put, zA, zB, zC]
      refine wpAnyR_take (i := 9) (v := ?_) [10, 11] (some 43) rfl rfl (by kernel_rfl) (by kernel_rfl) (by kernel_rfl) (by kernel_rfl) (by kernel_rfl) (by kernel_rfl) (by kernel_rfl) (fun _ _ _ h => h) (Or.inl ⟨by rfl, ?_⟩) hS ?_
      rotate_left
      focus (intro wS hSw; (try dsimp only at hSw); go_simp; (try with_reducible rfl); (try (first | (rw [if_pos (by omega)]; (try go_simp); (try with_reducible rfl)) | (rw [if_neg (by omega)]; (try go_simp); (try with_reducible rfl)))))
      try simp only [Act.put, zA, zB, zC]
      refine wpAnyR_n1 (i := 10) rfl (by kernel_rfl) ?_
      intro K' hK
      rw [if_pos (by rfl)]
      simp only [List.getElem_toArray, List.getElem_cons_succ, List.getElem_cons_zero]
      go_wp2_with fail
      refine HC.out.mono ?_
      rintro e w3 ⟨rfl, g3⟩
      have HG3 := Lib.hid ((Grew.refl wr).drew.trans g3)
      cases he : eqL l m with
      | false =>
        have HF := Lib.hid (labs_ne k hlt hlu (by rw [HV.out, HV2.out]; exact he))
        clear he
        go_wp2_with fail
        refine hK.out _ _ (.inr (fun _ => HSG.out _ g3)) ?_
        clear hK
        refine wpAnyR_takeQ (i := 11) (v := ?_) (some 45) rfl rfl (by kernel_rfl) (by kernel_rfl) (by kernel_rfl) (by kernel_rfl) (fun _ _ _ h => h) (Or.inl ⟨by rfl, ?_⟩) ?_
        rotate_left
        focus (intro wS hSw; (try dsimp only at hSw); go_simp; (try with_reducible rfl); (try (first | (rw [if_pos (by omega)]; (try go_simp); (try with_reducible rfl)) | (rw [if_neg (by omega)]; (try go_simp); (try with_reducible rfl)))))
        try simp only [Act.put, zA, zB, zC]
        refine wpAnyR_done (by kernel_rfl) ?_ _
        clear hS c0 c1 c2' c3 c4 m0 m1 m2 m3 m4 x2 g3
        go_wp2_with fail
        go_ret
        exact ⟨ret_bool (by rw [HE.out, HB.out, HB2.out, HF.out]; rfl), HG.out.trans HG3.out⟩
      | true =>
        have HN := Lib.hid (show ∀ j (h1 : j < T.labels.length) (h2 : j < U.labels.length), j < k + 1 → eqL T.labels[j] U.labels[j] = true from fun j h1 h2 hjk => by
          by_cases hjk' : j = k
          · subst hjk'; rw [HV.out, HV2.out]; exact he
          · exact HA.out j h1 h2 (by omega))
        clear he
        go_wp2_with fail
        refine hK.out _ _ (.inr (fun _ => HSG.out _ g3)) ?_
        clear hK
        refine wpAnyR_takeQ (i := 11) (v := ?_) (some 45) rfl rfl (by kernel_rfl) (by kernel_rfl) (by kernel_rfl) (by kernel_rfl) (fun _ _ _ h => h) (Or.inl ⟨by rfl, ?_⟩) ?_
        rotate_left
        focus (intro wS hSw; (try dsimp only at hSw); go_simp; (try with_reducible rfl); (try (first | (rw [if_pos (by omega)]; (try go_simp); (try with_reducible rfl)) | (rw [if_neg (by omega)]; (try go_simp); (try with_reducible rfl)))))
        try simp only [Act.put, zA, zB, zC]
        refine wpAnyR_done (by kernel_rfl) ?_ _
        clear hS c0 c1 c2' c3 c4 m0 m1 m2 m3 m4 x2 g3
        go_wp2_with fail
        go_roundg (T.labels.length - (k + 1))
        case measure => rw [HGK.out]; omega
        case rel => exact ⟨k + 1, by omega, by omega, by go_num, HN.out, HBB.out.grew HG3.out, HUB.out.grew HG3.out, HG.out.trans HG3.out⟩
    · have HF := Lib.hid (labs_eq HL.out (fun j h1 h2 => HA.out j h1 h2 (by omega)))
      clear hbb hub hg
      go_wp2_with fail
      go_ret
      exact ⟨ret_bool (by rw [HE.out, HB.out, HB2.out, HF.out]; rfl), HG.out⟩
end
end Go.Proofs.YtnlaogneceanoaaGreat
namespace Go.Proofs.YtnlaogneceanoaaGreat
set_option linter.unusedVariables false
set_option linter.unusedSimpArgs false
set_option linter.unusedSectionVars false
open Go.ChangeShapes Go.WideShapes Go.ChangeAt Go.RowKit Go.Deep
attribute [local go_sem ↓] Go.wp_at_zero Go.wp_at_succ
section
variable {H : Type} {enc : TypeId × Value → H} {w : World}
set_option maxRecDepth 100000 in
theorem open_refC {n : Nat} {cs : List Value} {y : DataW H × List MemPlace} (hlen : cs.length = 2) (h : DataW.trod enc Tryz.prog w 0 (fun _ => true) true n 26 cs = some y) :
    ∃ x : Int × Int, cs = [.int .i64 x.1, .int .i64 x.2] ∧ (-9223372036854775808 ≤ x.1 ∧ x.1 ≤ 9223372036854775807) ∧ (-9223372036854775808 ≤ x.2 ∧ x.2 ≤ 9223372036854775807) := by
  have hf := struct_fields Tryz.underlying26 (by kernel_rfl) h
  obtain ⟨v0, _, _, e0, f0⟩ := hf 0 _ rfl (by omega)
  obtain ⟨v1, _, _, e1, f1⟩ := hf 1 _ rfl (by omega)
  obtain ⟨n0, hn0, _, w0⟩ := DataW.trod_int Tryz.underlying3 f0
  obtain ⟨n1, hn1, _, w1⟩ := DataW.trod_int Tryz.underlying3 f1
  injection hn0 with hn0 _
  injection hn1 with hn1 _
  subst hn0; subst hn1
  refine ⟨(n0, n1), ?_, wf_i64 w0, wf_i64 w1⟩
  match cs, hlen with
  | [x0, x1], _ =>
    simp at e0 e1
    rw [e0, e1]
end
theorem sameT_self (T : Tab) : sameT T T = true := by unfold sameT; simp
end Go.Proofs.YtnlaogneceanoaaGreat
namespace Go.Proofs.YtnlaogneceanoaaGreat
set_option linter.unusedVariables false
set_option linter.unusedSimpArgs false
set_option linter.unusedSectionVars false
open Go.ChangeShapes Go.WideShapes Go.ChangeAt Go.RowKit Go.Deep
attribute [local go_sem ↓] Go.wp_at_zero Go.wp_at_succ
structure Opr where
  kind : Nat
  id : Int
  unit : Int
  name : ByteArray
  note : ByteArray
  n : Int
  ext : List (Int × Int)
/-- What is known of a change that came in. -/
structure OprAt (w : World) (B : Option Addr) (o : Opr) : Prop where
  kind : o.kind < 256
  name : o.name.size ≤ 9223372036854775807
  note : o.note.size ≤ 9223372036854775807
  n0 : -9223372036854775808 ≤ o.n
  n1 : o.n ≤ 9223372036854775807
  runs : RunsAt w w.heap.size B o.ext
  xl : o.ext.length ≤ 9223372036854775807
theorem op_field {H : Type} {enc : TypeId × Value → H} {P : Program} {w : World} {fs : Array Field} {e n : Nat} {cs : List Value} {y : DataW H × List MemPlace} {base : Nat} {sp : Nat → Bool} {hd : Bool} (he : P.underlying e = some (.struct fs)) (h : DataW.trod enc P w base sp hd n e cs = some y) :
    ∀ (j : Nat) (f : Field), fs[j]? = some f → ∃ n' y', DataW.trod enc P w base sp hd n' f.type ((cs.drop f.offset).take (P.cellsOf f.type)) = some y' := by
  intro j f hj
  obtain ⟨ys, n', hn', hy, hlen, hyl, hf⟩ := DataW.trod_struct he h
  have hjf : j < fs.size := (Array.getElem?_eq_some_iff.1 hj).1
  exact ⟨_, _, (hf j f hj).trans (List.getElem?_eq_getElem (by omega))⟩
theorem op_u8 {n : Int} (h : (Lit.int .u8 n).wf = true) : 0 ≤ n ∧ n ≤ 255 := by
  simp only [Lit.wf, IntKind.min, IntKind.max, IntKind.signed, IntKind.bits] at h
  simp at h
  omega
section
variable {H : Type} {enc : TypeId × Value → H} {w : World}
set_option maxRecDepth 100000 in
theorem open_oprC {n : Nat} {cs : List Value} {y : DataW H × List MemPlace} (hlen : cs.length = 7) (h : DataW.trod enc Tryz.prog w 0 (fun _ => true) true n 43 cs = some y) :
    ∃ B d, ∃ o : Opr, cs = [.int .u8 (o.kind : Int), .int .i64 o.id, .int .i64 o.unit, .string o.name, .string o.note, .int .i64 o.n, .slice B o.ext.length d] ∧ OprAt w B o := by
  match cs, hlen with
  | [x0, x1, x2, x3, x4, x5, x6], _ =>
    have hf := op_field Tryz.underlying43 h
    obtain ⟨_, _, f0⟩ := hf 0 _ rfl
    obtain ⟨_, _, f1⟩ := hf 1 _ rfl
    obtain ⟨_, _, f2⟩ := hf 2 _ rfl
    obtain ⟨_, _, f3⟩ := hf 3 _ rfl
    obtain ⟨_, _, f4⟩ := hf 4 _ rfl
    obtain ⟨_, _, f5⟩ := hf 5 _ rfl
    simp only [List.getElem_toArray, List.getElem_cons_zero, List.getElem_cons_succ] at f0 f1 f2 f3 f4 f5
    rw [show Tryz.prog.cellsOf 5 = 1 from by kernel_rfl] at f0
    rw [show Tryz.prog.cellsOf 26 = 2 from by kernel_rfl] at f1
    rw [show Tryz.prog.cellsOf 9 = 1 from by kernel_rfl] at f2 f3
    rw [show Tryz.prog.cellsOf 3 = 1 from by kernel_rfl] at f4
    rw [show Tryz.prog.cellsOf 29 = 1 from by kernel_rfl] at f5
    simp only [List.drop_succ_cons, List.drop_zero, List.take_succ_cons, List.take_zero] at f0 f1 f2 f3 f4 f5
    obtain ⟨x, hx, -, -⟩ := open_refC (by rfl) f1
    obtain ⟨n0, hn0, _, w0⟩ := DataW.trod_int Tryz.underlying5 f0
    obtain ⟨n3, hn3, _, w3⟩ := DataW.trod_string Tryz.underlying9 f2
    obtain ⟨n4, hn4, _, w4⟩ := DataW.trod_string Tryz.underlying9 f3
    obtain ⟨n5, hn5, _, w5⟩ := DataW.trod_int Tryz.underlying3 f4
    obtain ⟨A, c, l, rfl, h1, h2, h3⟩ := open_runsF f5
    injection hx with hx1 hx2
    injection hx2 with hx2 _
    injection hn0 with hn0 _
    injection hn3 with hn3 _
    injection hn4 with hn4 _
    injection hn5 with hn5 _
    subst hx1; subst hx2; subst hn0; subst hn3; subst hn4; subst hn5
    have b0 := op_u8 w0
    have b5 := wf_i64 w5
    unfold maxLen at w3 w4
    refine ⟨A, c, ⟨n0.toNat, x.1, x.2, n3, n4, n5, l⟩, ?_, ⟨by show n0.toNat < 256; omega, by simpa using w3, by simpa using w4, b5.1, b5.2, h3, Nat.le_trans h1 h2⟩⟩
    simp only [Int.toNat_of_nonneg b0.1]
set_option maxRecDepth 100000 in
theorem open_opr {r : Reach} {b0 : Nat} {v : Value} {d : DataW H} {ps : List MemPlace} (hv : Value.okWide Tryz.prog w r b0 43 v) (hd : DataW.Trod enc Tryz.prog w 0 (fun _ => true) true 43 v d ps) :
    ∃ B d, ∃ o : Opr, v = .agg #[.int .u8 (o.kind : Int), .int .i64 o.id, .int .i64 o.unit, .string o.name, .string o.note, .int .i64 o.n, .slice B o.ext.length d] ∧ OprAt w B o := by
  obtain ⟨cs, rfl, hsz⟩ := okWide_struct Tryz.underlying43 hv
  obtain ⟨fuel, hf⟩ := hd
  obtain ⟨B, d, o, hcs, h⟩ := open_oprC (cs := cs.toList) (by rw [Array.length_toList, hsz]; kernel_rfl) hf
  refine ⟨B, d, o, ?_, h⟩
  congr 1
  exact Array.toList_inj.1 hcs
end
def smallO (o : Opr) : Bool := decide (o.name.size ≤ 100) && (decide (o.note.size ≤ 500) && decide (o.ext.length ≤ 20))
set_option maxRecDepth 100000 in
set_option maxHeartbeats 4000000 in
theorem small_one (B : Option Addr) (d : Nat) (o : Opr) (g : Nat) (w : World) (hb : Blk w g 43 #[.int .u8 (o.kind : Int), .int .i64 o.id, .int .i64 o.unit, .string o.name, .string o.note, .int .i64 o.n, .slice B o.ext.length d]) (h1 : o.name.size ≤ 9223372036854775807) (h2 : o.note.size ≤ 9223372036854775807) (h3 : o.ext.length ≤ 9223372036854775807) :
    Calls Tryz.prog 21 #[.slice (some ⟨g, 0, none⟩) 1 1, .int .i64 1] w fun e w' => e = .returned (.bool (smallO o)) ∧ Grew w w' := by
  have HB := Lib.hid hb
  have HE := Lib.hid (show smallO o = (decide (o.name.size ≤ 100) && (decide (o.note.size ≤ 500) && decide (o.ext.length ≤ 20))) from rfl)
  clear hb
  go_enter Tryz.func21, Tryz.ntmps21
  go_wp2_with fail
  go_loopg [5] 1 (fun gk i wr => ∃ k : Nat, k ≤ 1 ∧ gk = 1 - k ∧ i = .int .i64 k ∧ (0 < k → smallO o = true) ∧ Grew w wr)
  case atStart => exact ⟨0, by omega, by omega, rfl, fun h => by omega, Grew.refl _⟩
  case round =>
    obtain ⟨k, hk, hgk, rfl, hall, hg⟩ := hrel
    have HGK := Lib.hid hgk
    have HA := Lib.hid hall
    have HG := Lib.hid hg
    have hbr := HB.out.grew hg
    have x3 := hbr.cell 3
    have x4 := hbr.cell 4
    have x6 := hbr.cell 6
    have hbl := hbr.lt
    clear hgk hall hg hbr
    by_cases hlt : k < 1
    · have hk0 : k = 0 := by omega
      subst hk0
      by_cases s1 : o.name.size ≤ 100
      rotate_left
      · have s1i : ¬ (o.name.size : Int) ≤ 100 := by omega
        have HF := Lib.hid (HE.out.trans (by rw [decide_eq_false s1]; rfl) : smallO o = false)
        go_wp2_with fail
        go_ret
        exact ⟨ret_bool (by rw [HF.out]), HG.out⟩
      have s1i : (o.name.size : Int) ≤ 100 := by omega
      by_cases s2 : o.note.size ≤ 500
      rotate_left
      · have s2i : ¬ (o.note.size : Int) ≤ 500 := by omega
        have HF := Lib.hid (HE.out.trans (by rw [decide_eq_true s1, decide_eq_false s2]; rfl) : smallO o = false)
        go_wp2_with fail
        go_ret
        exact ⟨ret_bool (by rw [HF.out]), HG.out⟩
      have s2i : (o.note.size : Int) ≤ 500 := by omega
      by_cases s3 : o.ext.length ≤ 20
      rotate_left
      · have s3i : ¬ (o.ext.length : Int) ≤ 20 := by omega
        have HF := Lib.hid (HE.out.trans (by rw [decide_eq_true s1, decide_eq_true s2, decide_eq_false s3]; rfl) : smallO o = false)
        go_wp2_with fail
        go_ret
        exact ⟨ret_bool (by rw [HF.out]), HG.out⟩
      have s3i : (o.ext.length : Int) ≤ 20 := by omega
      have HF := Lib.hid (HE.out.trans (by rw [decide_eq_true s1, decide_eq_true s2, decide_eq_true s3]; rfl) : smallO o = true)
      go_wp2_with fail
      go_roundg 0
      case measure => rw [HGK.out]; omega
      case rel => exact ⟨1, by omega, by omega, by go_num, fun _ => HF.out, HG.out⟩
    · have hk1 : k = 1 := by omega
      subst hk1
      have HF := Lib.hid (HA.out (by omega))
      go_wp2_with fail
      go_ret
      exact ⟨ret_bool (by rw [HF.out]), HG.out⟩
theorem relA_short (l : List (Int × Int)) (keep : Int) : (relA l keep).length ≤ l.length := by
  unfold relA
  split
  · exact Nat.zero_le _
  · have := joinS_len (ints (cutA l keep.toNat)); rw [ints_len]; rw [ints_len, cutA_len] at this; exact this
theorem tabZ_small : SmallT tabZ := ⟨by decide, fun l hl => by cases hl⟩
theorem set_small {T : Tab} (hs : SmallT T) (k : Nat) (x : Lab) (hx : x.ext.length ≤ 1000) : SmallT { T with labels := T.labels.set k x } :=
  ⟨by simp only; rw [List.length_set]; exact hs.len, fun l hl => by
    rcases List.mem_or_eq_of_mem_set hl with hl | rfl
    · exact hs.ext l hl
    · exact hx⟩
theorem chg_small (T : Tab) (id unit : Int) (F : Nat → Lab → List Lab × Int) (U : Tab) (er : Int) (h : chgT T id unit F = (U, er))
    (hF : ∀ k (hk : k < T.labels.length), validT T = true → (F k T.labels[k]).2 = 0 → SmallT { T with labels := (F k T.labels[k]).1 }) : SmallT U := by
  rcases chgT_cases T id unit F with ⟨hv, hx⟩ | ⟨hv, hi, hx⟩ | ⟨hv, k, hk, hi, hhit, ⟨h0, hx⟩ | ⟨h0, hx⟩⟩
  · rw [hx] at h; injection h with h _; rw [← h]; exact tabZ_small
  · rw [hx] at h; injection h with h _; rw [← h]; exact tabZ_small
  · rw [hx] at h; injection h with h _; rw [← h]; exact hF k hk hv h0
  · rw [hx] at h; injection h with h _; rw [← h]; exact tabZ_small
theorem create_small (T U : Tab) (id unit : Int) (nm nt : ByteArray) (n er : Int) (hs : SmallT T) (h : createT T id unit nm nt n = (U, er)) : SmallT U := by
  unfold createT at h
  split at h
  · split at h
    · injection h with h _; rw [← h]; exact tabZ_small
    · split at h
      · injection h with h _; rw [← h]; exact tabZ_small
      · split at h
        · injection h with h _; rw [← h]
          exact set_small hs _ _ (by show (ints _).length ≤ 1000; rw [ints_len]; exact Nat.le_trans (alloc_len _ _ _) (by omega))
        · injection h with h _; rw [← h]; exact tabZ_small
  · injection h with h _; rw [← h]; exact tabZ_small
theorem do_small (T U : Tab) (id unit : Int) (nm nt : ByteArray) (n er : Int) (ex : List (Int × Int)) (r : Int) (hs : SmallT T) (hx : ex.length ≤ 1000) (h : doT T id unit nm nt n ex r = (U, er)) : SmallT U := by
  unfold doT at h
  by_cases e0 : r = 0
  · rw [if_pos e0] at h; exact create_small T U id unit nm nt n er hs h
  rw [if_neg e0] at h
  by_cases e1 : r = 1
  · rw [if_pos e1] at h
    refine chg_small T id unit _ U er h (fun k hk hv _ => set_small hs _ _ ?_)
    show (ints _).length ≤ 1000
    rw [ints_len]
    exact extS_len _ _ _ (Nat.le_trans ((validT_facts T hv).2.2 T.labels[k] (List.getElem_mem hk)).1 (by omega))
  rw [if_neg e1] at h
  by_cases e2 : r = 2
  · rw [if_pos e2] at h
    exact chg_small T id unit _ U er h (fun k hk hv _ => set_small hs _ _ (Nat.le_trans (relA_short _ _) (hs.ext T.labels[k] (List.getElem_mem hk))))
  rw [if_neg e2] at h
  by_cases e3 : r = 3
  · rw [if_pos e3] at h
    exact chg_small T id unit _ U er h (fun k hk hv _ => set_small hs _ _ hx)
  rw [if_neg e3] at h
  by_cases e4 : r = 4
  · rw [if_pos e4] at h; exact confirm_small T U id unit nt er h hs
  rw [if_neg e4] at h
  by_cases e5 : r = 5
  · rw [if_pos e5] at h
    refine chg_small T id unit _ U er h (fun k hk hv _ => ?_)
    unfold chNote
    split
    · exact hs
    · exact set_small hs _ _ (hs.ext T.labels[k] (List.getElem_mem hk))
  rw [if_neg e5] at h
  exact chg_small T id unit _ U er h (fun k hk hv _ => set_small hs _ _ (by show labZ.ext.length ≤ 1000; decide))
end Go.Proofs.YtnlaogneceanoaaGreat
namespace Go.Proofs.YtnlaogneceanoaaGreat
set_option linter.unusedVariables false
set_option linter.unusedSimpArgs false
set_option linter.unusedSectionVars false
open Go.RowKit
attribute [local go_sem ↓] Go.wp_at_zero Go.wp_at_succ
section
variable (A B : Option Addr) (c d : Nat) (T : Tab) (o : Opr) (w : World)
set_option maxRecDepth 100000 in
set_option maxHeartbeats 16000000 in
theorem contentsChanges_any (hT : ∃ xs, TabAt w A c xs T) (ho : OprAt w B o) :
    Calls Tryz.prog 4 #[.agg #[.string T.name, .int .i64 T.tracks, .slice A T.labels.length c], .agg #[.int .u8 (o.kind : Int), .int .i64 o.id, .int .i64 o.unit, .string o.name, .string o.note, .int .i64 o.n, .slice B o.ext.length d]] w fun e w' => e = .returned (.bool true) ∧ Grew w w' := by
  obtain ⟨xs, h⟩ := hT
  have hg0 := ((Grew.refl w).alloc (.cells #[.string T.name, .int .i64 T.tracks, .slice A T.labels.length c] 24)).alloc (.cells #[.int .u8 (o.kind : Int), .int .i64 o.id, .int .i64 o.unit, .string o.name, .string o.note, .int .i64 o.n, .slice B o.ext.length d] 43)
  have HB0 := Lib.hid ((Blk.new w 24 #[.string T.name, .int .i64 T.tracks, .slice A T.labels.length c] rfl).alloc (.cells #[.int .u8 (o.kind : Int), .int .i64 o.id, .int .i64 o.unit, .string o.name, .string o.note, .int .i64 o.n, .slice B o.ext.length d] 43))
  have HO0 := Lib.hid (Blk.new (w.alloc (.cells #[.string T.name, .int .i64 T.tracks, .slice A T.labels.length c] 24)) 43 #[.int .u8 (o.kind : Int), .int .i64 o.id, .int .i64 o.unit, .string o.name, .string o.note, .int .i64 o.n, .slice B o.ext.length d] (n := w.heap.size + 1) (by simp))
  have HTB := Lib.hid h
  have HOA := Lib.hid ho
  have HFT := Lib.hid (fun w1 (hg : Grew w w1) => fewT_any A c xs T w1 (h.hold hg))
  have HG0 := Lib.hid hg0
  clear h ho hg0
  cases hf : fewT T with
  | false =>
    have HF := Lib.hid hf
    clear hf
    go_enter Tryz.func4, Tryz.ntmps4
    go_wp2_with fail
    refine (awake_con _).mono ?_
    rintro e w1 ⟨rfl, g1⟩
    have HB1 := Lib.hid (HB0.out.grew g1)
    have HO1 := Lib.hid (HO0.out.grew g1)
    have HG1 := Lib.hid (HG0.out.trans g1)
    have x0 := HB1.out.cell 0
    have x1 := HB1.out.cell 1
    have x2 := HB1.out.cell 2
    have hbl := HB1.out.lt
    clear g1
    go_wp2_with fail
    refine (HFT.out _ HG1.out).mono ?_
    rintro e w2 ⟨rfl, g2⟩
    rw [HF.out]
    clear x0 x1 x2 hbl
    go_wp2_with fail
    refine (awake_con _).mono ?_
    rintro e w9 ⟨rfl, g9⟩
    go_wp2_with fail
    go_ret
    exact ⟨rfl, (HG1.out.trans g2).trans g9⟩
  | true =>
  obtain ⟨hsm, _⟩ := fewT_facts hf
  have HF := Lib.hid hf
  clear hf
  cases hso : smallO o with
  | false =>
    have HSO := Lib.hid hso
    clear hso hsm
    go_enter Tryz.func4, Tryz.ntmps4
    go_wp2_with fail
    refine (awake_con _).mono ?_
    rintro e w1 ⟨rfl, g1⟩
    have HB1 := Lib.hid (HB0.out.grew g1)
    have HO1 := Lib.hid (HO0.out.grew g1)
    have HG1 := Lib.hid (HG0.out.trans g1)
    have x0 := HB1.out.cell 0
    have x1 := HB1.out.cell 1
    have x2 := HB1.out.cell 2
    have hbl := HB1.out.lt
    clear g1
    go_wp2_with fail
    refine (HFT.out _ HG1.out).mono ?_
    rintro e w2 ⟨rfl, g2⟩
    rw [HF.out]
    clear x0 x1 x2 hbl
    have gal : Grew w2 (w2.alloc (.cells #[.int .u8 (o.kind : Int), .int .i64 o.id, .int .i64 o.unit, .string o.name, .string o.note, .int .i64 o.n, .slice B o.ext.length d] 43)) := (Grew.refl w2).alloc _
    have HS2 := Lib.hid (Blk.new w2 43 #[.int .u8 (o.kind : Int), .int .i64 o.id, .int .i64 o.unit, .string o.name, .string o.note, .int .i64 o.n, .slice B o.ext.length d] rfl)
    have HB2 := Lib.hid ((HB1.out.grew g2).grew gal)
    have HO2 := Lib.hid ((HO1.out.grew g2).grew gal)
    have HOp := Lib.hid (HO1.out.grew g2)
    have HG2 := Lib.hid ((HG1.out.trans g2).trans gal)
    have o0 := HOp.out.cell 0
    have o1 := HOp.out.cell 1
    have o2 := HOp.out.cell 2
    have o3 := HOp.out.cell 3
    have o4 := HOp.out.cell 4
    have o5 := HOp.out.cell 5
    have o6 := HOp.out.cell 6
    have hol := HOp.out.lt
    clear g2 gal
    go_wp2_with fail
    refine (small_one B d o w2.heap.size _ HS2.out HOA.out.name HOA.out.note HOA.out.xl).mono ?_
    rintro e w3 ⟨rfl, g3⟩
    rw [HSO.out]
    clear o0 o1 o2 o3 o4 o5 o6 hol
    go_wp2_with fail
    refine (awake_con _).mono ?_
    rintro e w9 ⟨rfl, g9⟩
    go_wp2_with fail
    go_ret
    exact ⟨rfl, (HG2.out.trans g3).trans g9⟩
  | true =>
  have HSO := Lib.hid hso
  have hxl : o.ext.length ≤ 1000 := by
    unfold smallO at hso
    simp only [Bool.and_eq_true, decide_eq_true_eq] at hso
    omega
  obtain ⟨⟨U, er⟩, hU⟩ : ∃ p, doT T o.id o.unit o.name o.note o.n o.ext ((o.kind : Int) % 7) = p := ⟨_, rfl⟩
  have HDO := Lib.hid (fun w1 (hg : Grew w w1) => do_tab A c xs T o.id o.unit w1 B d o.kind o.name o.note o.n o.ext (HTB.out.hold hg) hsm HOA.out.kind HOA.out.name HOA.out.note HOA.out.n0 HOA.out.n1 (RunsAt.hold (w := w) HOA.out.runs hg) hxl U er hU)
  have HRD := Lib.hid (fun w1 (hg : Grew w w1) => rdo_tab A c xs T o.id o.unit w1 B d o.kind o.name o.note o.n o.ext (HTB.out.hold hg) hsm HOA.out.kind HOA.out.name HOA.out.note HOA.out.n0 HOA.out.n1 (RunsAt.hold (w := w) HOA.out.runs hg) hxl U er hU)
  have HSU := Lib.hid (do_small T U o.id o.unit o.name o.note o.n er o.ext _ hsm hxl hU)
  have hee : (er == er) = true := by simp
  clear hso hsm hU
  go_enter Tryz.func4, Tryz.ntmps4
  go_wp2_with fail
  refine (awake_con _).mono ?_
  rintro e w1 ⟨rfl, g1⟩
  have HB1 := Lib.hid (HB0.out.grew g1)
  have HO1 := Lib.hid (HO0.out.grew g1)
  have HG1 := Lib.hid (HG0.out.trans g1)
  have x0 := HB1.out.cell 0
  have x1 := HB1.out.cell 1
  have x2 := HB1.out.cell 2
  have hbl := HB1.out.lt
  clear g1
  go_wp2_with fail
  refine (HFT.out _ HG1.out).mono ?_
  rintro e w2 ⟨rfl, g2⟩
  rw [HF.out]
  clear x0 x1 x2 hbl
  have gal : Grew w2 (w2.alloc (.cells #[.int .u8 (o.kind : Int), .int .i64 o.id, .int .i64 o.unit, .string o.name, .string o.note, .int .i64 o.n, .slice B o.ext.length d] 43)) := (Grew.refl w2).alloc _
  have HS2 := Lib.hid (Blk.new w2 43 #[.int .u8 (o.kind : Int), .int .i64 o.id, .int .i64 o.unit, .string o.name, .string o.note, .int .i64 o.n, .slice B o.ext.length d] rfl)
  have HB2 := Lib.hid ((HB1.out.grew g2).grew gal)
  have HO2 := Lib.hid ((HO1.out.grew g2).grew gal)
  have HOp := Lib.hid (HO1.out.grew g2)
  have HG2 := Lib.hid ((HG1.out.trans g2).trans gal)
  have o0 := HOp.out.cell 0
  have o1 := HOp.out.cell 1
  have o2 := HOp.out.cell 2
  have o3 := HOp.out.cell 3
  have o4 := HOp.out.cell 4
  have o5 := HOp.out.cell 5
  have o6 := HOp.out.cell 6
  have hol := HOp.out.lt
  clear g2 gal
  go_wp2_with fail
  refine (small_one B d o w2.heap.size _ HS2.out HOA.out.name HOA.out.note HOA.out.xl).mono ?_
  rintro e w3 ⟨rfl, g3⟩
  rw [HSO.out]
  clear o0 o1 o2 o3 o4 o5 o6 hol
  have HB3 := Lib.hid (HB2.out.grew g3)
  have HO3 := Lib.hid (HO2.out.grew g3)
  have HG3 := Lib.hid (HG2.out.trans g3)
  clear g3
  have o0 := HO3.out.cell 0
  have o1 := HO3.out.cell 1
  have o2 := HO3.out.cell 2
  have o3 := HO3.out.cell 3
  have o4 := HO3.out.cell 4
  have o5 := HO3.out.cell 5
  have o6 := HO3.out.cell 6
  have hol := HO3.out.lt
  have x0 := HB3.out.cell 0
  have x1 := HB3.out.cell 1
  have x2 := HB3.out.cell 2
  have hbl := HB3.out.lt
  go_wp2_with fail
  refine (HDO.out _ HG3.out).mono ?_
  rintro e w4 ⟨A4, c4, ys, rfl, ht4, g4⟩
  have gal : Grew w4 (w4.alloc (.cells #[.string U.name, .int .i64 U.tracks, .slice A4 U.labels.length c4] 24)) := (Grew.refl w4).alloc _
  have HT4 := Lib.hid (ht4.hold gal)
  have HU4 := Lib.hid (Blk.new w4 24 #[.string U.name, .int .i64 U.tracks, .slice A4 U.labels.length c4] rfl)
  have HB4 := Lib.hid ((HB3.out.grew g4).grew gal)
  have HO4 := Lib.hid ((HO3.out.grew g4).grew gal)
  have HG4 := Lib.hid ((HG3.out.trans g4).trans gal)
  clear o0 o1 o2 o3 o4 o5 o6 hol x0 x1 x2 hbl gal ht4 g4
  have o0 := HO4.out.cell 0
  have o1 := HO4.out.cell 1
  have o2 := HO4.out.cell 2
  have o3 := HO4.out.cell 3
  have o4 := HO4.out.cell 4
  have o5 := HO4.out.cell 5
  have o6 := HO4.out.cell 6
  have hol := HO4.out.lt
  have x0 := HB4.out.cell 0
  have x1 := HB4.out.cell 1
  have x2 := HB4.out.cell 2
  have hbl := HB4.out.lt
  go_wp2_with fail
  refine (HRD.out _ HG4.out).mono ?_
  rintro e w5 ⟨A5, c5, zs, rfl, ht5, g5⟩
  have gal : Grew w5 (w5.alloc (.cells #[.string U.name, .int .i64 U.tracks, .slice A5 U.labels.length c5] 24)) := (Grew.refl w5).alloc _
  have HT5 := Lib.hid (ht5.hold gal)
  have HT45 := Lib.hid ((HT4.out.hold g5).hold gal)
  have HV5 := Lib.hid (Blk.new w5 24 #[.string U.name, .int .i64 U.tracks, .slice A5 U.labels.length c5] rfl)
  have HU5 := Lib.hid ((HU4.out.grew g5).grew gal)
  have HG5 := Lib.hid ((HG4.out.trans g5).trans gal)
  clear o0 o1 o2 o3 o4 o5 o6 hol x0 x1 x2 hbl gal ht5 g5
  have u0 := HU5.out.cell 0
  have u1 := HU5.out.cell 1
  have u2 := HU5.out.cell 2
  have hul := HU5.out.lt
  have v0 := HV5.out.cell 0
  have v1 := HV5.out.cell 1
  have v2 := HV5.out.cell 2
  have hvl := HV5.out.lt
  go_wp2_with fail
  refine (rsame_tab A4 A5 c4 c5 ys zs U U _ HT45.out HSU.out HT5.out HSU.out true (sameT_self U)).mono ?_
  rintro e w6 ⟨rfl, g6⟩
  go_wp2_with fail
  go_ret
  exact ⟨rfl, HG5.out.trans g6⟩
end
end Go.Proofs.YtnlaogneceanoaaGreat
