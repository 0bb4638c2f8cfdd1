/- Chapter 8: the reference's Refs; SameRefs. -/
import Derived.Test.YtnlaogneceanoaaGreatCsF
import Derived.Test.YtnlaogneceanoaaGreatCsG
import Derived.Test.YtnlaogneceanoaaGreatCsI
namespace Go.Proofs.YtnlaogneceanoaaGreat
set_option linter.unusedVariables false
set_option linter.unusedSimpArgs false
set_option linter.unusedSectionVars false
open Go.RowKit
attribute [local go_sem ↓] Go.wp_at_zero Go.wp_at_succ
theorem OwnL.lower2 {w : World} {b b' e sz : Nat} {v : Value} {rows : List (List Value)} (h : OwnL w b e sz v rows) (hb : b' ≤ b) : OwnL w b' e sz v rows := by
  refine ⟨h.1, h.2.1, ?_⟩
  rcases h.2.2 with h0 | ⟨g, cap, cur, h1, h2, h3⟩
  · exact .inl h0
  · exact .inr ⟨g, cap, cur, h1, Nat.le_trans hb h2, h3⟩
theorem sortP_snoc (l : List (Int × Int)) (x : Int × Int) : sortP (l ++ [x]) = insP (sortP l) x := by unfold sortP; rw [List.foldl_append]; rfl
/-- Where an element is put: behind all that are not greater. -/
theorem insP_at (x : Int × Int) : ∀ (l : List (Int × Int)) (a : Nat), a ≤ l.length → (∀ j (hj : j < l.length), j < a → ¬ ltP x l[j]) → (a = l.length ∨ ∃ h : a < l.length, ltP x l[a]) → insP l x = l.take a ++ ([x] ++ l.drop a) := by
  intro l
  induction l with
  | nil =>
    intro a ha _ _
    have h0 : a = 0 := by simpa using ha
    subst h0
    rfl
  | cons y l ih =>
    intro a ha h1 h2
    cases a with
    | zero =>
      rcases h2 with h2 | ⟨_, h2⟩
      · simp at h2
      · unfold insP
        rw [if_pos (show ltP x y from h2)]
        rfl
    | succ a =>
      have h0 : ¬ ltP x y := fun h => h1 0 (by simp) (by omega) h
      unfold insP
      rw [if_neg h0, ih a (by simpa using ha) (fun j hj hja h => h1 (j + 1) (by simp only [List.length_cons]; omega) (by omega) h) (by
        rcases h2 with h2 | ⟨h3, h2⟩
        · left; simpa using h2
        · exact .inr ⟨by simpa using h3, h2⟩)]
      rfl
set_option maxRecDepth 100000 in
set_option maxHeartbeats 1000000 in
theorem rless_any (x y : Int × Int) (w : World) : Calls Tryz.prog 58 #[.agg #[.int .i64 x.1, .int .i64 x.2], .agg #[.int .i64 y.1, .int .i64 y.2]] w fun e w' => e = .returned (.bool (decide (ltP x y))) ∧ Grew w w' := by
  obtain ⟨x1, x2⟩ := x
  obtain ⟨y1, y2⟩ := y
  simp only
  by_cases h1 : x1 < y1
  · have HE := Lib.hid (show decide (ltP (x1, x2) (y1, y2)) = true from decide_eq_true (.inl h1))
    go_enter Tryz.func58, Tryz.ntmps58
    go_wp2_with fail
    go_ret
    exact ⟨ret_bool (by rw [HE.out]), by (repeat' first | (with_reducible exact Grew.refl _) | (with_reducible assumption) | (with_reducible refine Grew.alloc ?_ _) | (with_reducible refine Grew.drew ?_) | (with_reducible refine Grew.drewN ?_ _) | (with_reducible refine Grew.setRow ?_ (by first | (simp; done) | (simp; omega) | omega) _) | (with_reducible refine Grew.setCell ?_ (by first | (simp; done) | (simp; omega) | omega) _) | ((with_reducible apply Grew.trans); rotate_left; (with_reducible assumption)) | ((with_reducible apply Grew.turn); rotate_left; (with_reducible assumption); (focus (intro i hi; first | omega | (simp at hi; omega)))) | fail)⟩
  · cases h2 : (x1 == y1) with
    | false =>
      have HE := Lib.hid (show decide (ltP (x1, x2) (y1, y2)) = false from decide_eq_false (fun h => by unfold ltP at h; simp at h2; omega))
      go_enter Tryz.func58, Tryz.ntmps58
      go_wp2_with fail
      go_ret
      exact ⟨ret_bool (by rw [HE.out]), by (repeat' first | (with_reducible exact Grew.refl _) | (with_reducible assumption) | (with_reducible refine Grew.alloc ?_ _) | (with_reducible refine Grew.drew ?_) | (with_reducible refine Grew.drewN ?_ _) | (with_reducible refine Grew.setRow ?_ (by first | (simp; done) | (simp; omega) | omega) _) | (with_reducible refine Grew.setCell ?_ (by first | (simp; done) | (simp; omega) | omega) _) | ((with_reducible apply Grew.trans); rotate_left; (with_reducible assumption)) | ((with_reducible apply Grew.turn); rotate_left; (with_reducible assumption); (focus (intro i hi; first | omega | (simp at hi; omega)))) | fail)⟩
    | true =>
      have e12 : x1 = y1 := by simpa using h2
      by_cases h3 : x2 < y2
      · have HE := Lib.hid (show decide (ltP (x1, x2) (y1, y2)) = true from decide_eq_true (.inr ⟨e12, h3⟩))
        clear e12
        go_enter Tryz.func58, Tryz.ntmps58
        go_wp2_with fail
        go_ret
        exact ⟨ret_bool (by rw [HE.out]), by (repeat' first | (with_reducible exact Grew.refl _) | (with_reducible assumption) | (with_reducible refine Grew.alloc ?_ _) | (with_reducible refine Grew.drew ?_) | (with_reducible refine Grew.drewN ?_ _) | (with_reducible refine Grew.setRow ?_ (by first | (simp; done) | (simp; omega) | omega) _) | (with_reducible refine Grew.setCell ?_ (by first | (simp; done) | (simp; omega) | omega) _) | ((with_reducible apply Grew.trans); rotate_left; (with_reducible assumption)) | ((with_reducible apply Grew.turn); rotate_left; (with_reducible assumption); (focus (intro i hi; first | omega | (simp at hi; omega)))) | fail)⟩
      · have HE := Lib.hid (show decide (ltP (x1, x2) (y1, y2)) = false from decide_eq_false (fun h => by unfold ltP at h; simp only at h; omega))
        clear e12
        go_enter Tryz.func58, Tryz.ntmps58
        go_wp2_with fail
        go_ret
        exact ⟨ret_bool (by rw [HE.out]), by (repeat' first | (with_reducible exact Grew.refl _) | (with_reducible assumption) | (with_reducible refine Grew.alloc ?_ _) | (with_reducible refine Grew.drew ?_) | (with_reducible refine Grew.drewN ?_ _) | (with_reducible refine Grew.setRow ?_ (by first | (simp; done) | (simp; omega) | omega) _) | (with_reducible refine Grew.setCell ?_ (by first | (simp; done) | (simp; omega) | omega) _) | ((with_reducible apply Grew.trans); rotate_left; (with_reducible assumption)) | ((with_reducible apply Grew.turn); rotate_left; (with_reducible assumption); (focus (intro i hi; first | omega | (simp at hi; omega)))) | fail)⟩
theorem refC_row {l : List (Int × Int)} : ∀ r ∈ l.map refC, r.length = 2 := fun r hr => by obtain ⟨x, _, rfl⟩ := List.mem_map.1 hr; rfl
theorem refC_one {l : List (Int × Int)} : ∀ r ∈ l.map refC, r.all (·.oneCell') = true := fun r hr => by obtain ⟨x, _, rfl⟩ := List.mem_map.1 hr; rfl
section
variable (A : Option Addr) (c : Nat) (xs : List LabE) (T : Tab) (w : World)
set_option maxRecDepth 100000 in
set_option maxHeartbeats 16000000 in
theorem rrefs_tab (h : TabAt w A c xs T) (hs : SmallT T) (kf : List (Int × Int)) (hkf : refsT T = kf) :
    Calls Tryz.prog 15 #[.agg #[.string T.name, .int .i64 T.tracks, .slice A T.labels.length c]] w fun e w' => ∃ A c, e = .returned (.slice A kf.length c) ∧ ListAt w' w'.heap.size 2 A (kf.map refC) ∧ Grew w w' := by
  have hlen := hs.len
  have hg0 := ((Grew.refl w).alloc (.cells #[.string T.name, .int .i64 T.tracks, .slice A T.labels.length c] 24)).alloc (.cells #[] 26)
  have hb0 := (Blk.new w 24 #[.string T.name, .int .i64 T.tracks, .slice A T.labels.length c] rfl).alloc (.cells #[] 26)
  have ho0 : OwnL ((w.alloc (.cells #[.string T.name, .int .i64 T.tracks, .slice A T.labels.length c] 24)).alloc (.cells #[] 26)) w.heap.size 26 2 (.slice (some ⟨w.heap.size + 1, 0, none⟩) 0 0) [] := OwnL.empty _ _ _ _ (by simp) (by simp)
  have HTB := Lib.hid h
  have HS := Lib.hid hs
  have HKF := Lib.hid hkf
  have x2 := hb0.cell 2
  clear h hs hkf
  go_enter Tryz.func15, Tryz.ntmps15
  go_wp2_with fail
  go_loopg [3, 4] T.labels.length (fun gk ov i wr => ∃ k : Nat, k ≤ T.labels.length ∧ gk = T.labels.length - k ∧ i = .int .i64 k ∧ (∃ g cap, ov = .slice (some ⟨g, 0, none⟩) (sortP (rawR (T.labels.take k))).length cap ∧ OwnL wr w.heap.size 26 2 ov ((sortP (rawR (T.labels.take k))).map refC)) ∧ Blk wr w.heap.size 24 #[.string T.name, .int .i64 T.tracks, .slice A T.labels.length c] ∧ Grew w wr)
  case atStart => exact ⟨0, by omega, by omega, rfl, ⟨_, _, rfl, ho0⟩, hb0, hg0⟩
  case round =>
    obtain ⟨k, hk, hgk, rfl, ⟨g, cap, rfl, hown⟩, hb, hg⟩ := hrel
    rename World => wr1
    have hNl : (sortP (rawR (T.labels.take k))).length ≤ k := by rw [(sortP_perm _).length_eq]; exact rawR_len _ _
    have HGK := Lib.hid hgk
    have HG := Lib.hid hg
    have HB := Lib.hid hb
    clear x2 hgk hb0 hg0 ho0
    have x2 := hb.cell 2
    have hbl0 := hb.lt
    by_cases hlt : k < T.labels.length
    · obtain ⟨b, off, B, d, l, rfl, hbl, hxk, hv, hla, c0, c1, c2, c3, c4⟩ := (HTB.out.hold hg).at_ hlt
      have hle := HS.out.ext T.labels[k] (List.getElem_mem hlt)
      rw [hv] at hle
      have hrs := rawR_snoc T.labels k hlt
      rw [hv] at hrs
      have HRS := Lib.hid hrs
      have HE := Lib.hid (rempty_any B d l wr1 hla hle)
      have HOWN := Lib.hid hown
      clear hv hxk hla hrs hg
      go_wp2_with fail
      refine HE.out.mono ?_
      rintro e w3 ⟨rfl, g3⟩
      cases hem : emL l with
      | true =>
        have HF := Lib.hid (show rawR (T.labels.take (k + 1)) = rawR (T.labels.take k) from by rw [HRS.out, if_pos hem, List.append_nil])
        have HO := Lib.hid (hown.grew g3)
        have HB3 := Lib.hid (hb.grew g3)
        have HG3 := Lib.hid (HG.out.trans g3)
        clear hem hown hb g3 c0 c1 c2 c3 c4 x2
        go_wp2_with fail
        go_roundg (T.labels.length - (k + 1))
        case measure => rw [HGK.out]; omega
        case rel => exact ⟨k + 1, by omega, by omega, by go_num, ⟨g, cap, by rw [HF.out], by rw [HF.out]; exact HO.out⟩, HB3.out, HG3.out⟩
      | false =>
        have HF := Lib.hid (show sortP (rawR (T.labels.take (k + 1))) = insP (sortP (rawR (T.labels.take k))) (l.id, l.unit) from by rw [HRS.out, if_neg (by rw [hem]; simp), sortP_snoc])
        generalize hN : sortP (rawR (T.labels.take k)) = N at *
        clear hem hN HOWN
        have hb3 := hb.grew g3
        have hown3 := hown.grew g3
        have HG3 := Lib.hid (HG.out.trans g3)
        have d0 : w3.cell? ⟨b, off + k * 5, none⟩ = some (.int .i64 l.id) := by rw [g3.cellEq _ _ hbl]; exact c0
        have d1 : w3.cell? ⟨b, off + k * 5 + 1, none⟩ = some (.int .i64 l.unit) := by rw [g3.cellEq _ _ hbl]; exact c1
        have hbl3 := Nat.lt_of_lt_of_le hbl g3.size
        have hS : (fun w' : World => w'.cell? ⟨w.heap.size, 2, none⟩ = some (.slice (some ⟨b, off, none⟩) T.labels.length c) ∧ w'.cell? ⟨b, off + k * 5, none⟩ = some (.int .i64 l.id) ∧ w'.cell? ⟨b, off + k * 5 + 1, none⟩ = some (.int .i64 l.unit)) w3.drew := ⟨hb3.drew.cell 2, d0, d1⟩
        have hbw3 := hb3.lt
        have HB3 := Lib.hid hb3
        have HO3 := Lib.hid hown3
        clear hown hb g3 c0 c1 c2 c3 c4 x2 hb3 hown3
        go_wp2_with fail
        refine wp_region_R [14] (fun w' : World => w'.cell? ⟨w.heap.size, 2, none⟩ = some (.slice (some ⟨b, off, none⟩) T.labels.length c) ∧ w'.cell? ⟨b, off + k * 5, none⟩ = some (.int .i64 l.id) ∧ w'.cell? ⟨b, off + k * 5 + 1, none⟩ = some (.int .i64 l.unit)) (by kernel_rfl) ?_
        refine wpAnyR_takeQ (i := 0) (v := ?_) (some 21) rfl rfl (by kernel_rfl) (by kernel_rfl) (by kernel_rfl) (by kernel_rfl) (fun _ _ _ h => h) (Or.inl ⟨by rfl, ?_⟩) ?_
        rotate_left
        focus (intro wS hSw; (try dsimp only at hSw); go_simp; (try with_reducible rfl); (try (first | (rw [if_pos (by omega)]; (try go_simp); (try with_reducible rfl)) | (rw [if_neg (by omega)]; (try go_simp); (try with_reducible rfl)))))
        try simp only [Act.put, List.setIfInBounds_toArray, List.set_cons_zero, List.set_cons_succ]
        refine wpAnyR_take (i := 1) (v := ?_) [3, 4, 5, 12, 14] (some 22) rfl rfl (by kernel_rfl) (by kernel_rfl) (by kernel_rfl) (by kernel_rfl) (by kernel_rfl) (by kernel_rfl) (by kernel_rfl) (fun _ _ _ h => h) (Or.inl ⟨by rfl, ?_⟩) hS ?_
        rotate_left
        focus (intro wS hSw; (try dsimp only at hSw); go_simp; (try with_reducible rfl); (try (first | (rw [if_pos (by omega)]; (try go_simp); (try with_reducible rfl)) | (rw [if_neg (by omega)]; (try go_simp); (try with_reducible rfl)))))
        try simp only [Act.put, List.setIfInBounds_toArray, List.set_cons_zero, List.set_cons_succ]
        refine wpAnyR_takeQ (i := 2) (v := ?_) (some 23) rfl rfl (by kernel_rfl) (by kernel_rfl) (by kernel_rfl) (by kernel_rfl) (fun _ _ _ h => h) (Or.inl ⟨by rfl, ?_⟩) ?_
        rotate_left
        focus (intro wS hSw; (try dsimp only at hSw); go_simp; (try with_reducible rfl); (try (first | (rw [if_pos (by omega)]; (try go_simp); (try with_reducible rfl)) | (rw [if_neg (by omega)]; (try go_simp); (try with_reducible rfl)))))
        try simp only [Act.put, List.setIfInBounds_toArray, List.set_cons_zero, List.set_cons_succ]
        refine wpAnyR_takeQ (i := 3) (v := ?_) (some 24) rfl rfl (by kernel_rfl) (by kernel_rfl) (by kernel_rfl) (by kernel_rfl) (fun _ _ _ h => h) (Or.inl ⟨by rfl, ?_⟩) ?_
        rotate_left
        focus (intro wS hSw; (try dsimp only at hSw); go_simp; (try with_reducible rfl); (try (first | (rw [if_pos (by omega)]; (try go_simp); (try with_reducible rfl)) | (rw [if_neg (by omega)]; (try go_simp); (try with_reducible rfl)))))
        try simp only [Act.put, List.setIfInBounds_toArray, List.set_cons_zero, List.set_cons_succ]
        refine wpAnyR_takeQ (i := 4) (v := ?_) (some 25) rfl rfl (by kernel_rfl) (by kernel_rfl) (by kernel_rfl) (by kernel_rfl) (fun _ _ _ h => h) (Or.inl ⟨by rfl, ?_⟩) ?_
        rotate_left
        focus (intro wS hSw; (try dsimp only at hSw); go_simp; (try with_reducible rfl); (try (first | (rw [if_pos (by omega)]; (try go_simp); (try with_reducible rfl)) | (rw [if_neg (by omega)]; (try go_simp); (try with_reducible rfl)))))
        try simp only [Act.put, List.setIfInBounds_toArray, List.set_cons_zero, List.set_cons_succ]
        refine wpAnyR_take (i := 5) (v := ?_) [12, 14] (some 26) rfl rfl (by kernel_rfl) (by kernel_rfl) (by kernel_rfl) (by kernel_rfl) (by kernel_rfl) (by kernel_rfl) (by kernel_rfl) (fun _ _ _ h => h) (Or.inl ⟨by rfl, ?_⟩) hS ?_
        rotate_left
        focus (intro wS hSw; (try dsimp only at hSw); go_simp; (try with_reducible rfl); (try (first | (rw [if_pos (by omega)]; (try go_simp); (try with_reducible rfl)) | (rw [if_neg (by omega)]; (try go_simp); (try with_reducible rfl)))))
        try simp only [Act.put, List.setIfInBounds_toArray, List.set_cons_zero, List.set_cons_succ]
        refine wpAnyR_takeQ (i := 6) (v := ?_) (some 27) rfl rfl (by kernel_rfl) (by kernel_rfl) (by kernel_rfl) (by kernel_rfl) (fun _ _ _ h => h) (Or.inl ⟨by rfl, ?_⟩) ?_
        rotate_left
        focus (intro wS hSw; (try dsimp only at hSw); go_simp; (try with_reducible rfl); (try (first | (rw [if_pos (by omega)]; (try go_simp); (try with_reducible rfl)) | (rw [if_neg (by omega)]; (try go_simp); (try with_reducible rfl)))))
        try simp only [Act.put, List.setIfInBounds_toArray, List.set_cons_zero, List.set_cons_succ]
        refine wpAnyR_take (i := 7) (v := ?_) [9, 10, 11, 12, 14] (some 28) rfl rfl (by kernel_rfl) (by kernel_rfl) (by kernel_rfl) (by kernel_rfl) (by kernel_rfl) (by kernel_rfl) (by kernel_rfl) (fun _ _ _ h => h) (Or.inl ⟨by rfl, ?_⟩) hS ?_
        rotate_left
        focus (intro wS hSw; (try dsimp only at hSw); go_simp; (try with_reducible rfl); (try (first | (rw [if_pos (by omega)]; (try go_simp); (try with_reducible rfl)) | (rw [if_neg (by omega)]; (try go_simp); (try with_reducible rfl)))))
        try simp only [Act.put, List.setIfInBounds_toArray, List.set_cons_zero, List.set_cons_succ]
        refine wpAnyR_takeQ (i := 8) (v := ?_) (some 29) rfl rfl (by kernel_rfl) (by kernel_rfl) (by kernel_rfl) (by kernel_rfl) (fun _ _ _ h => h) (Or.inl ⟨by rfl, ?_⟩) ?_
        rotate_left
        focus (intro wS hSw; (try dsimp only at hSw); go_simp; (try with_reducible rfl); (try (first | (rw [if_pos (by omega)]; (try go_simp); (try with_reducible rfl)) | (rw [if_neg (by omega)]; (try go_simp); (try with_reducible rfl)))))
        try simp only [Act.put, List.setIfInBounds_toArray, List.set_cons_zero, List.set_cons_succ]
        refine wpAnyR_takeQ (i := 9) (v := ?_) (some 30) rfl rfl (by kernel_rfl) (by kernel_rfl) (by kernel_rfl) (by kernel_rfl) (fun _ _ _ h => h) (Or.inl ⟨by rfl, ?_⟩) ?_
        rotate_left
        focus (intro wS hSw; (try dsimp only at hSw); go_simp; (try with_reducible rfl); (try (first | (rw [if_pos (by omega)]; (try go_simp); (try with_reducible rfl)) | (rw [if_neg (by omega)]; (try go_simp); (try with_reducible rfl)))))
        try simp only [Act.put, List.setIfInBounds_toArray, List.set_cons_zero, List.set_cons_succ]
        refine wpAnyR_takeQ (i := 10) (v := ?_) (some 31) rfl rfl (by kernel_rfl) (by kernel_rfl) (by kernel_rfl) (by kernel_rfl) (fun _ _ _ h => h) (Or.inl ⟨by rfl, ?_⟩) ?_
        rotate_left
        focus (intro wS hSw; (try dsimp only at hSw); go_simp; (try with_reducible rfl); (try (first | (rw [if_pos (by omega)]; (try go_simp); (try with_reducible rfl)) | (rw [if_neg (by omega)]; (try go_simp); (try with_reducible rfl)))))
        try simp only [Act.put, List.setIfInBounds_toArray, List.set_cons_zero, List.set_cons_succ]
        refine wpAnyR_take (i := 11) (v := ?_) [12, 14] (some 32) rfl rfl (by kernel_rfl) (by kernel_rfl) (by kernel_rfl) (by kernel_rfl) (by kernel_rfl) (by kernel_rfl) (by kernel_rfl) (fun _ _ _ h => h) (Or.inl ⟨by rfl, ?_⟩) hS ?_
        rotate_left
        focus (intro wS hSw; (try dsimp only at hSw); go_simp; (try with_reducible rfl); (try (first | (rw [if_pos (by omega)]; (try go_simp); (try with_reducible rfl)) | (rw [if_neg (by omega)]; (try go_simp); (try with_reducible rfl)))))
        try simp only [Act.put, List.setIfInBounds_toArray, List.set_cons_zero, List.set_cons_succ]
        refine wpAnyR_takeQ (i := 12) (v := ?_) (some 33) rfl rfl (by kernel_rfl) (by kernel_rfl) (by kernel_rfl) (by kernel_rfl) (fun _ _ _ h => h) (Or.inl ⟨by rfl, ?_⟩) ?_
        rotate_left
        focus (intro wS hSw; (try dsimp only at hSw); go_simp; (try with_reducible rfl); (try (first | (rw [if_pos (by omega)]; (try go_simp); (try with_reducible rfl)) | (rw [if_neg (by omega)]; (try go_simp); (try with_reducible rfl)))))
        try simp only [Act.put, List.setIfInBounds_toArray, List.set_cons_zero, List.set_cons_succ]
        refine wpAnyR_n1 (i := 13) rfl (by kernel_rfl) ?_
        intro K' hK
        rw [if_pos (by rfl)]
        simp only [List.getElem_toArray, List.getElem_cons_succ, List.getElem_cons_zero]
        go_wp2_with fail
        refine hK.out _ _ (.inr (fun h => by
          have ga : Grew w3 (w3.alloc (.cells #[.int .i64 0, .int .i64 0] 26)).drew := ((Grew.refl w3).alloc _).drew
          simp only [ga.cellEq _ _ hbl3, ga.cellEq _ _ hbw3]
          exact h)) ?_
        clear hK
        refine wpAnyR_n1 (i := 14) rfl (by kernel_rfl) ?_
        intro K' hK
        rw [if_pos (by rfl)]
        simp only [List.getElem_toArray, List.getElem_cons_succ, List.getElem_cons_zero]
        go_wp2_with fail
        refine hK.out _ _ (.inl rfl) ?_
        clear hK
        refine wpAnyR_done (by kernel_rfl) ?_ _
        have hwxg : Grew w3 (w3.alloc (.cells #[.int .i64 l.id, .int .i64 l.unit] 26)).drew := ((Grew.refl w3).alloc _).drew
        obtain ⟨wx, hwx⟩ : ∃ wx, wx = (w3.alloc (.cells #[.int .i64 l.id, .int .i64 l.unit] 26)).drew := ⟨_, rfl⟩
        rw [← hwx]
        rw [← hwx] at hwxg
        have HXB := Lib.hid (show Blk wx w3.heap.size 26 #[.int .i64 l.id, .int .i64 l.unit] from by rw [hwx]; exact (Blk.new w3 _ _ rfl).drew)
        have HOX := Lib.hid (HO3.out.grew hwxg)
        have HBX := Lib.hid (HB3.out.grew hwxg)
        have HGX := Lib.hid (HG3.out.trans hwxg)
        clear hwx hwxg hS d0 d1
        go_wp2_with fail
        go_loopg [6] N.length (fun gk i wr => ∃ q : Nat, q ≤ N.length ∧ gk = N.length - q ∧ i = .int .i64 q ∧ (∀ j (hj : j < N.length), j < q → ¬ ltP (l.id, l.unit) N[j]) ∧ Grew wx wr)
        case atStart => exact ⟨0, by omega, by omega, rfl, fun j _ h => by omega, Grew.refl _⟩
        case round =>
          obtain ⟨q, hq, hgq0, rfl, hnq, hgw⟩ := hrel
          rename World => wq
          have HGQ := Lib.hid hgq0
          have HNQ := Lib.hid hnq
          have hxq := HXB.out.grew hgw
          have hoq := HOX.out.grew hgw
          have hbq := HBX.out.grew hgw
          have hgq := HGX.out.trans hgw
          have HGW := Lib.hid hgw
          have hxl := hxq.lt
          have hgl := (hoq.own_ge rfl).2
          clear hgq0 hnq hgw
          by_cases hqk : q < N.length
          · have hrow : (N.map refC)[q]? = some (refC N[q]) := by rw [List.getElem?_map, List.getElem?_eq_getElem hqk]; rfl
            have HD := Lib.hid (show decide ((q : Int) < (N.length : Int)) = true from decide_eq_true (by omega))
            have hqi : (q : Int) < (N.length : Int) := by omega
            have hS : (fun w' : World => w'.cell? ⟨w3.heap.size, 0, none⟩ = some (.int .i64 l.id) ∧ w'.cell? ⟨w3.heap.size, 1, none⟩ = some (.int .i64 l.unit) ∧ w'.cell? ⟨g, q * 2, none⟩ = some (.int .i64 N[q].1) ∧ w'.cell? ⟨g, q * 2 + 1, none⟩ = some (.int .i64 N[q].2)) wq.drew := ⟨hxq.drew.cell 0, hxq.drew.cell 1, hoq.drew.cell (j := q) (i := 0) hrow rfl, hoq.drew.cell (j := q) (i := 1) hrow rfl⟩
            have HSG := Lib.hid (show ∀ w9 : World, Grew wq.drew w9 → (fun w' : World => w'.cell? ⟨w3.heap.size, 0, none⟩ = some (.int .i64 l.id) ∧ w'.cell? ⟨w3.heap.size, 1, none⟩ = some (.int .i64 l.unit) ∧ w'.cell? ⟨g, q * 2, none⟩ = some (.int .i64 N[q].1) ∧ w'.cell? ⟨g, q * 2 + 1, none⟩ = some (.int .i64 N[q].2)) w9 from fun w9 h9 => by
              simp only [h9.cellEq _ _ (show w3.heap.size < wq.drew.heap.size from hxl), h9.cellEq _ _ (show g < wq.drew.heap.size from hgl)]
              exact hS)
            have HXX := Lib.hid hxq
            have HOO := Lib.hid hoq
            have HBB := Lib.hid hbq
            have HGG := Lib.hid hgq
            clear hrow hxq hoq hbq hgq
            go_wp2_with fail
            refine wp_region_R [] (fun w' : World => w'.cell? ⟨w3.heap.size, 0, none⟩ = some (.int .i64 l.id) ∧ w'.cell? ⟨w3.heap.size, 1, none⟩ = some (.int .i64 l.unit) ∧ w'.cell? ⟨g, q * 2, none⟩ = some (.int .i64 N[q].1) ∧ w'.cell? ⟨g, q * 2 + 1, none⟩ = some (.int .i64 N[q].2)) (by kernel_rfl) ?_
            refine wpAnyR_takeQ (i := 0) (v := ?_) (some 34) rfl rfl (by kernel_rfl) (by kernel_rfl) (by kernel_rfl) (by kernel_rfl) (fun _ _ _ h => h) (Or.inl ⟨by rfl, ?_⟩) ?_
            rotate_left
            focus (intro wS hSw; (try dsimp only at hSw); go_simp; (try with_reducible rfl); (try (first | (rw [if_pos (by omega)]; (try go_simp); (try with_reducible rfl)) | (rw [if_neg (by omega)]; (try go_simp); (try with_reducible rfl)))))
            try simp only [Act.put, List.setIfInBounds_toArray, List.set_cons_zero, List.set_cons_succ]
            refine wpAnyR_takeQ (i := 1) (v := ?_) (some 35) rfl rfl (by kernel_rfl) (by kernel_rfl) (by kernel_rfl) (by kernel_rfl) (fun _ _ _ h => h) (Or.inl ⟨by rfl, ?_⟩) ?_
            rotate_left
            focus (intro wS hSw; (try dsimp only at hSw); go_simp; (try with_reducible rfl); (try (first | (rw [if_pos (by omega)]; (try go_simp); (try with_reducible rfl)) | (rw [if_neg (by omega)]; (try go_simp); (try with_reducible rfl)))))
            try simp only [Act.put, List.setIfInBounds_toArray, List.set_cons_zero, List.set_cons_succ]
            refine wpAnyR_take (i := 2) (v := ?_) [3, 4, 5, 6, 7, 8, 9, 10, 11, 12] (some 36) rfl rfl (by kernel_rfl) (by kernel_rfl) (by kernel_rfl) (by kernel_rfl) (by kernel_rfl) (by kernel_rfl) (by kernel_rfl) (fun _ _ _ h => h) (Or.inl ⟨by rfl, ?_⟩) hS ?_
            rotate_left
            focus (intro wS hSw; (try dsimp only at hSw); go_simp; (try with_reducible rfl); (try (first | (rw [if_pos (by omega)]; (try go_simp); (try with_reducible rfl)) | (rw [if_neg (by omega)]; (try go_simp); (try with_reducible rfl)))))
            try simp only [Act.put, List.setIfInBounds_toArray, List.set_cons_zero, List.set_cons_succ]
            refine wpAnyR_takeQ (i := 3) (v := ?_) (some 37) rfl rfl (by kernel_rfl) (by kernel_rfl) (by kernel_rfl) (by kernel_rfl) (fun _ _ _ h => h) (Or.inl ⟨by rfl, ?_⟩) ?_
            rotate_left
            focus (intro wS hSw; (try dsimp only at hSw); go_simp; (try with_reducible rfl); (try (first | (rw [if_pos (by omega)]; (try go_simp); (try with_reducible rfl)) | (rw [if_neg (by omega)]; (try go_simp); (try with_reducible rfl)))))
            try simp only [Act.put, List.setIfInBounds_toArray, List.set_cons_zero, List.set_cons_succ]
            try rw [HD.out]
            refine wpAnyR_takeQ (i := 4) (v := ?_) (some 38) rfl rfl (by kernel_rfl) (by kernel_rfl) (by kernel_rfl) (by kernel_rfl) (fun _ _ _ h => h) (Or.inl ⟨by rfl, ?_⟩) ?_
            rotate_left
            focus (intro wS hSw; (try dsimp only at hSw); go_simp; (try with_reducible rfl); (try (first | (rw [if_pos (by omega)]; (try go_simp); (try with_reducible rfl)) | (rw [if_neg (by omega)]; (try go_simp); (try with_reducible rfl)))))
            try simp only [Act.put, List.setIfInBounds_toArray, List.set_cons_zero, List.set_cons_succ]
            refine wpAnyR_take (i := 5) (v := ?_) [10, 11, 12] (some 39) rfl rfl (by kernel_rfl) (by kernel_rfl) (by kernel_rfl) (by kernel_rfl) (by kernel_rfl) (by kernel_rfl) (by kernel_rfl) (fun _ _ _ h => h) (Or.inl ⟨by rfl, ?_⟩) hS ?_
            rotate_left
            focus (intro wS hSw; (try dsimp only at hSw); go_simp; (try with_reducible rfl); (try (first | (rw [if_pos (by omega)]; (try go_simp); (try with_reducible rfl)) | (rw [if_neg (by omega)]; (try go_simp); (try with_reducible rfl)))))
            try simp only [Act.put, List.setIfInBounds_toArray, List.set_cons_zero, List.set_cons_succ]
            refine wpAnyR_takeQ (i := 6) (v := ?_) (some 40) rfl rfl (by kernel_rfl) (by kernel_rfl) (by kernel_rfl) (by kernel_rfl) (fun _ _ _ h => h) (Or.inl ⟨by rfl, ?_⟩) ?_
            rotate_left
            focus (intro wS hSw; (try dsimp only at hSw); go_simp; (try with_reducible rfl); (try (first | (rw [if_pos (by omega)]; (try go_simp); (try with_reducible rfl)) | (rw [if_neg (by omega)]; (try go_simp); (try with_reducible rfl)))))
            try simp only [Act.put, List.setIfInBounds_toArray, List.set_cons_zero, List.set_cons_succ]
            refine wpAnyR_takeQ (i := 7) (v := ?_) (some 41) rfl rfl (by kernel_rfl) (by kernel_rfl) (by kernel_rfl) (by kernel_rfl) (fun _ _ _ h => h) (Or.inl ⟨by rfl, ?_⟩) ?_
            rotate_left
            focus (intro wS hSw; (try dsimp only at hSw); go_simp; (try with_reducible rfl); (try (first | (rw [if_pos (by omega)]; (try go_simp); (try with_reducible rfl)) | (rw [if_neg (by omega)]; (try go_simp); (try with_reducible rfl)))))
            try simp only [Act.put, List.setIfInBounds_toArray, List.set_cons_zero, List.set_cons_succ]
            refine wpAnyR_takeQ (i := 8) (v := ?_) (some 42) rfl rfl (by kernel_rfl) (by kernel_rfl) (by kernel_rfl) (by kernel_rfl) (fun _ _ _ h => h) (Or.inl ⟨by rfl, ?_⟩) ?_
            rotate_left
            focus (intro wS hSw; (try dsimp only at hSw); go_simp; (try with_reducible rfl); (try (first | (rw [if_pos (by omega)]; (try go_simp); (try with_reducible rfl)) | (rw [if_neg (by omega)]; (try go_simp); (try with_reducible rfl)))))
            try simp only [Act.put, List.setIfInBounds_toArray, List.set_cons_zero, List.set_cons_succ]
            refine wpAnyR_take (i := 9) (v := ?_) [10, 11, 12] (some 43) rfl rfl (by kernel_rfl) (by kernel_rfl) (by kernel_rfl) (by kernel_rfl) (by kernel_rfl) (by kernel_rfl) (by kernel_rfl) (fun _ _ _ h => h) (Or.inl ⟨by rfl, ?_⟩) hS ?_
            rotate_left
            focus (intro wS hSw; (try dsimp only at hSw); go_simp; (try with_reducible rfl); (try (first | (rw [if_pos (by omega)]; (try go_simp); (try with_reducible rfl)) | (rw [if_neg (by omega)]; (try go_simp); (try with_reducible rfl)))))
            try simp only [Act.put, List.setIfInBounds_toArray, List.set_cons_zero, List.set_cons_succ]
            refine wpAnyR_n1 (i := 10) rfl (by kernel_rfl) ?_
            intro K' hK
            rw [if_pos (by rfl)]
            simp only [List.getElem_toArray, List.getElem_cons_succ, List.getElem_cons_zero]
            go_wp2_with fail
            refine (rless_any (l.id, l.unit) N[q] _).mono ?_
            rintro e w4 ⟨rfl, g4⟩
            have HG4 := Lib.hid ((Grew.refl wq).drew.trans g4)
            by_cases hlt2 : ltP (l.id, l.unit) N[q]
            rotate_left
            · rw [decide_eq_false hlt2]
              have HN2 := Lib.hid (show ∀ j (hj : j < N.length), j < q + 1 → ¬ ltP (l.id, l.unit) N[j] from fun j hj hjq => by
                by_cases hjq' : j = q
                · subst hjq'; exact hlt2
                · exact HNQ.out j hj (by omega))
              go_wp2_with fail
              refine hK.out _ _ (.inr (fun _ => HSG.out _ g4)) ?_
              clear hK
              refine wpAnyR_takeQ (i := 11) (v := ?_) (some 45) rfl rfl (by kernel_rfl) (by kernel_rfl) (by kernel_rfl) (by kernel_rfl) (fun _ _ _ h => h) (Or.inl ⟨by rfl, ?_⟩) ?_
              rotate_left
              focus (intro wS hSw; (try dsimp only at hSw); go_simp; (try with_reducible rfl); (try (first | (rw [if_pos (by omega)]; (try go_simp); (try with_reducible rfl)) | (rw [if_neg (by omega)]; (try go_simp); (try with_reducible rfl)))))
              try simp only [Act.put, List.setIfInBounds_toArray, List.set_cons_zero, List.set_cons_succ]
              refine wpAnyR_takeQ (i := 12) (v := ?_) (some 46) rfl rfl (by kernel_rfl) (by kernel_rfl) (by kernel_rfl) (by kernel_rfl) (fun _ _ _ h => h) (Or.inl ⟨by rfl, ?_⟩) ?_
              rotate_left
              focus (intro wS hSw; (try dsimp only at hSw); go_simp; (try with_reducible rfl); (try (first | (rw [if_pos (by omega)]; (try go_simp); (try with_reducible rfl)) | (rw [if_neg (by omega)]; (try go_simp); (try with_reducible rfl)))))
              try simp only [Act.put, List.setIfInBounds_toArray, List.set_cons_zero, List.set_cons_succ]
              refine wpAnyR_done (by kernel_rfl) ?_ _
              clear hS hlt2 g4
              go_wp2_with fail
              go_roundg (N.length - (q + 1))
              case measure => rw [HGQ.out]; omega
              case rel => exact ⟨q + 1, by omega, by omega, by go_num, HN2.out, HGW.out.trans HG4.out⟩
            · rw [decide_eq_true hlt2]
              have HWHY := Lib.hid (show q = N.length ∨ ∃ h : q < N.length, ltP (l.id, l.unit) N[q] from .inr ⟨hqk, hlt2⟩)
              go_wp2_with fail
              refine hK.out _ _ (.inr (fun _ => HSG.out _ g4)) ?_
              clear hK
              refine wpAnyR_takeQ (i := 11) (v := ?_) (some 45) rfl rfl (by kernel_rfl) (by kernel_rfl) (by kernel_rfl) (by kernel_rfl) (fun _ _ _ h => h) (Or.inl ⟨by rfl, ?_⟩) ?_
              rotate_left
              focus (intro wS hSw; (try dsimp only at hSw); go_simp; (try with_reducible rfl); (try (first | (rw [if_pos (by omega)]; (try go_simp); (try with_reducible rfl)) | (rw [if_neg (by omega)]; (try go_simp); (try with_reducible rfl)))))
              try simp only [Act.put, List.setIfInBounds_toArray, List.set_cons_zero, List.set_cons_succ]
              refine wpAnyR_takeQ (i := 12) (v := ?_) (some 46) rfl rfl (by kernel_rfl) (by kernel_rfl) (by kernel_rfl) (by kernel_rfl) (fun _ _ _ h => h) (Or.inl ⟨by rfl, ?_⟩) ?_
              rotate_left
              focus (intro wS hSw; (try dsimp only at hSw); go_simp; (try with_reducible rfl); (try (first | (rw [if_pos (by omega)]; (try go_simp); (try with_reducible rfl)) | (rw [if_neg (by omega)]; (try go_simp); (try with_reducible rfl)))))
              try simp only [Act.put, List.setIfInBounds_toArray, List.set_cons_zero, List.set_cons_succ]
              refine wpAnyR_done (by kernel_rfl) ?_ _
              clear hS hlt2
              obtain ⟨wz, hwz⟩ : ∃ wz, wz = w4 := ⟨_, rfl⟩
              subst hwz
              have hxq := HXX.out.grew HG4.out
              have hoq := HOO.out.grew HG4.out
              have hbq := HBB.out.grew HG4.out
              have hgq := HGG.out.trans HG4.out
              have HINS := Lib.hid (insP_at (l.id, l.unit) N q (by omega) HNQ.out HWHY.out)
              obtain ⟨hnc, hcm⟩ : N.length ≤ cap ∧ cap ≤ 9223372036854775807 := by
                have h9 := hoq.form
                rcases h9 with ⟨h0, _⟩ | ⟨g9, c9, h1, _, _, h3, h4⟩
                · cases h0
                · rw [List.length_map] at h1 h3
                  injection h1 with _ _ h1
                  omega
              by_cases hcq : cap = q
              · have hqn2 : N.length ≤ q := by omega
                exact absurd hqk (by omega)
              · have hcq2 : q < cap := by omega
                go_wp2_with fail
                refine wp_region_R [] (fun w' : World => w'.cell? ⟨w3.heap.size, 0, none⟩ = some (.int .i64 l.id) ∧ w'.cell? ⟨w3.heap.size, 1, none⟩ = some (.int .i64 l.unit)) (by kernel_rfl) ?_
                obtain ⟨wa, hwa⟩ : ∃ wa, wa = wz.drew := ⟨_, rfl⟩
                rw [← hwa]
                have HXq := Lib.hid (show Blk wa w3.heap.size 26 #[.int .i64 l.id, .int .i64 l.unit] from by rw [hwa]; exact hxq.drew)
                have HOq := Lib.hid (show OwnL wa w.heap.size 26 2 (.slice (some ⟨g, 0, none⟩) N.length cap) (N.map refC) from by rw [hwa]; exact hoq.drew)
                have HBa := Lib.hid (show Blk wa w.heap.size 24 #[.string T.name, .int .i64 T.tracks, .slice (some ⟨b, off, none⟩) T.labels.length c] from by rw [hwa]; exact hbq.drew)
                have HGa := Lib.hid (show Grew w wa from by rw [hwa]; exact hgq.drew)
                clear hwa hxq hoq hbq hgq
                have hS : (fun w' : World => w'.cell? ⟨w3.heap.size, 0, none⟩ = some (.int .i64 l.id) ∧ w'.cell? ⟨w3.heap.size, 1, none⟩ = some (.int .i64 l.unit)) wa := ⟨HXq.out.cell 0, HXq.out.cell 1⟩
                have gE := (Grew.refl wa).alloc (.cells #[] 26)
                have gX := (Grew.refl wa).alloc (.cells #[.int .i64 l.id, .int .i64 l.unit] 26)
                have gEX := gE.alloc (.cells #[.int .i64 l.id, .int .i64 l.unit] 26)
                have gXE := gX.alloc (.cells #[] 26)
                refine wpAnyR_takeQ (i := 1) (v := ?_) (some 50) rfl rfl (by kernel_rfl) (by kernel_rfl) (by kernel_rfl) (by kernel_rfl) (fun _ _ _ h => h) (Or.inl ⟨by rfl, ?_⟩) ?_
                rotate_left
                focus (intro wS hSw; (try dsimp only at hSw); go_simp; (try with_reducible rfl); (try (first | (rw [if_pos (by omega)]; (try go_simp); (try with_reducible rfl)) | (rw [if_neg (by omega)]; (try go_simp); (try with_reducible rfl)))))
                try simp only [Act.put, List.setIfInBounds_toArray, List.set_cons_zero, List.set_cons_succ]
                refine wpAnyR_takeQ (i := 2) (v := ?_) (some 51) rfl rfl (by kernel_rfl) (by kernel_rfl) (by kernel_rfl) (by kernel_rfl) (fun _ _ _ h => h) (Or.inl ⟨by rfl, ?_⟩) ?_
                rotate_left
                focus (intro wS hSw; (try dsimp only at hSw); go_simp; (try with_reducible rfl); (try (first | (rw [if_pos (by omega)]; (try go_simp); (try with_reducible rfl)) | (rw [if_neg (by omega)]; (try go_simp); (try with_reducible rfl)))))
                try simp only [Act.put, List.setIfInBounds_toArray, List.set_cons_zero, List.set_cons_succ]
                refine wpAnyR_takeQ (i := 3) (v := ?_) (some 52) rfl rfl (by kernel_rfl) (by kernel_rfl) (by kernel_rfl) (by kernel_rfl) (fun _ _ _ h => h) (Or.inl ⟨by rfl, ?_⟩) ?_
                rotate_left
                focus (intro wS hSw; (try dsimp only at hSw); go_simp; (try with_reducible rfl); (try (first | (rw [if_pos (by omega)]; (try go_simp); (try with_reducible rfl)) | (rw [if_neg (by omega)]; (try go_simp); (try with_reducible rfl)))))
                try simp only [Act.put, List.setIfInBounds_toArray, List.set_cons_zero, List.set_cons_succ]
                refine wpAnyR_take (i := 5) (v := ?_) [6, 7, 11, 12] (some 54) rfl rfl (by kernel_rfl) (by kernel_rfl) (by kernel_rfl) (by kernel_rfl) (by kernel_rfl) (by kernel_rfl) (by kernel_rfl) (fun _ _ _ h => h) (Or.inl ⟨by rfl, ?_⟩) hS ?_
                rotate_left
                focus (intro wS hSw; (try dsimp only at hSw); go_simp; (try with_reducible rfl); (try (first | (rw [if_pos (by omega)]; (try go_simp); (try with_reducible rfl)) | (rw [if_neg (by omega)]; (try go_simp); (try with_reducible rfl)))))
                try simp only [Act.put, List.setIfInBounds_toArray, List.set_cons_zero, List.set_cons_succ]
                refine wpAnyR_takeQ (i := 8) (v := ?_) (some 57) rfl rfl (by kernel_rfl) (by kernel_rfl) (by kernel_rfl) (by kernel_rfl) (fun _ _ _ h => h) (Or.inl ⟨by rfl, ?_⟩) ?_
                rotate_left
                focus (intro wS hSw; (try dsimp only at hSw); go_simp; (try with_reducible rfl); (try (first | (rw [if_pos (by omega)]; (try go_simp); (try with_reducible rfl)) | (rw [if_neg (by omega)]; (try go_simp); (try with_reducible rfl)))))
                try simp only [Act.put, List.setIfInBounds_toArray, List.set_cons_zero, List.set_cons_succ]
                refine wpAnyR_takeQ (i := 9) (v := ?_) (some 58) rfl rfl (by kernel_rfl) (by kernel_rfl) (by kernel_rfl) (by kernel_rfl) (fun _ _ _ h => h) (Or.inl ⟨by rfl, ?_⟩) ?_
                rotate_left
                focus (intro wS hSw; (try dsimp only at hSw); go_simp; (try with_reducible rfl); (try (first | (rw [if_pos (by omega)]; (try go_simp); (try with_reducible rfl)) | (rw [if_neg (by omega)]; (try go_simp); (try with_reducible rfl)))))
                try simp only [Act.put, List.setIfInBounds_toArray, List.set_cons_zero, List.set_cons_succ]
                refine wpAnyR_takeQ (i := 10) (v := ?_) (some 59) rfl rfl (by kernel_rfl) (by kernel_rfl) (by kernel_rfl) (by kernel_rfl) (fun _ _ _ h => h) (Or.inl ⟨by rfl, ?_⟩) ?_
                rotate_left
                focus (intro wS hSw; (try dsimp only at hSw); go_simp; (try with_reducible rfl); (try (first | (rw [if_pos (by omega)]; (try go_simp); (try with_reducible rfl)) | (rw [if_neg (by omega)]; (try go_simp); (try with_reducible rfl)))))
                try simp only [Act.put, List.setIfInBounds_toArray, List.set_cons_zero, List.set_cons_succ]
                refine wpAnyR_n2 (i := 0) (j := 6) rfl rfl (by kernel_rfl) ?s1a ?s1b
                case' s1a =>
                  intro K' hK
                  rw [if_pos (by rfl)]
                  simp only [List.getElem_toArray, List.getElem_cons_succ, List.getElem_cons_zero]
                  go_wp2_with fail
                  refine hK.out _ _ (.inr (fun _ => ⟨(HXq.out.grew gE).cell 0, (HXq.out.grew gE).cell 1⟩)) ?_
                  clear hK
                  have ho0 : OwnL (wa.alloc (.cells #[] 26)) wa.heap.size 26 2 (.slice (some ⟨wa.heap.size, 0, none⟩) 0 0) [] := OwnL.empty _ _ _ _ (Nat.le_refl _) rfl
                  refine wpAnyR_n2 (i := 4) (j := 6) rfl rfl (by kernel_rfl) ?s1xa ?s1xb
                  case' s1xa =>
                    intro K' hK
                    rw [if_pos (by rfl)]
                    simp only [List.getElem_toArray, List.getElem_cons_succ, List.getElem_cons_zero]
                    refine wp_pushAll (.tmp 49) (.tmp 52) 36 rfl wa.heap.size 26 2 16 _ Tryz.underlying36 info_ref rfl (by decide) _ [] ((N.take q).map refC) rfl ho0 _ q _ rfl (by rw [List.length_map, List.length_take]; omega) refC_row (by have h9 := ((HOq.out.grew gE).listA).take q; rwa [← List.map_take] at h9) refC_one (by simp; omega) (by simp; omega) gE.size ?_
                    intro v1 w1 hown1 hgr1 hat1
                    rw [List.nil_append] at hown1
                    have g1 : Grew wa w1 := Grew.own gE hgr1 ho0.row_ge (Nat.le_refl _)
                    refine hK.out _ _ (.inr (fun _ => ⟨(HXq.out.grew g1).cell 0, (HXq.out.grew g1).cell 1⟩)) ?_
                    clear hK
                    refine wpAnyR_n1 (i := 6) rfl (by kernel_rfl) ?_
                    intro K' hK
                    rw [if_pos (by rfl)]
                    simp only [List.getElem_toArray, List.getElem_cons_succ, List.getElem_cons_zero]
                    go_wp2_with fail
                    have gc := g1.alloc (.cells #[.int .i64 l.id, .int .i64 l.unit] 26)
                    have hownc := hown1.alloc (.cells #[.int .i64 l.id, .int .i64 l.unit] 26)
                    have hxn := Blk.new w1 26 #[.int .i64 l.id, .int .i64 l.unit] rfl
                    refine hK.out _ _ (.inr (fun _ => ⟨(HXq.out.grew gc).cell 0, (HXq.out.grew gc).cell 1⟩)) ?_
                    clear hK hown1 hgr1 hat1
                    refine wpAnyR_n1 (i := 7) rfl (by kernel_rfl) ?_
                    intro K' hK
                    rw [if_pos (by rfl)]
                    simp only [List.getElem_toArray, List.getElem_cons_succ, List.getElem_cons_zero]
                    refine wp_push (.tmp 53) (.tmp 55) 36 rfl wa.heap.size 26 2 16 _ Tryz.underlying36 info_ref rfl (by decide) _ _ ((N.take q).map refC) (refC (l.id, l.unit)) rfl rfl hownc _ rfl hxn rfl (by rw [List.length_map, List.length_take]; omega) (by rw [List.length_map, List.length_take]; omega) gc.size q (by rw [List.length_map, List.length_take]; omega) ?_
                    intro g2 cap2 w2 hown2 hgr2 hat2 hlt2
                    have gg2 : Grew wa w2 := Grew.own gc hgr2 hownc.row_ge (Nat.le_refl _)
                    refine hK.out _ _ (.inr (fun _ => ⟨(HXq.out.grew gg2).cell 0, (HXq.out.grew gg2).cell 1⟩)) ?_
                    clear hK
                    refine wpAnyR_n1 (i := 11) rfl (by kernel_rfl) ?_
                    intro K' hK
                    rw [if_pos (by rfl)]
                    simp only [List.getElem_toArray, List.getElem_cons_succ, List.getElem_cons_zero]
                    refine wp_pushAll (.tmp 56) (.tmp 59) 36 rfl wa.heap.size 26 2 16 _ Tryz.underlying36 info_ref rfl (by decide) _ _ ((N.drop q).map refC) rfl hown2 _ (N.length - q) _ (by first | rfl | (simp [Act.eval]; done)) (by rw [List.length_map, List.length_drop]) refC_row (by have h9 := ((HOq.out.grew gg2).listA).drop q (off' := q * 2) (by omega); rwa [← List.map_drop] at h9) refC_one (by rw [List.length_append, List.length_map, List.length_take]; simp; omega) (by rw [List.length_append, List.length_map, List.length_take]; simp; omega) gg2.size ?_
                    intro v3 w5 hown3 hgr3 hat3
                    have gg3 : Grew wa w5 := Grew.own gg2 hgr3 hown2.row_ge (Nat.le_refl _)
                    refine hK.out _ _ (.inr (fun _ => ⟨(HXq.out.grew gg3).cell 0, (HXq.out.grew gg3).cell 1⟩)) ?_
                    clear hK
                    refine wpAnyR_takeQ (i := 12) (v := ?_) (some 3) rfl rfl (by kernel_rfl) (by kernel_rfl) (by kernel_rfl) (by kernel_rfl) (fun _ _ _ h => h) (Or.inl ⟨by rfl, ?_⟩) ?_
                    rotate_left
                    focus (intro wS hSw; (try dsimp only at hSw); go_simp; (try with_reducible rfl); (try (first | (rw [if_pos (by omega)]; (try go_simp); (try with_reducible rfl)) | (rw [if_neg (by omega)]; (try go_simp); (try with_reducible rfl)))))
                    try simp only [Act.put, List.setIfInBounds_toArray, List.set_cons_zero, List.set_cons_succ]
                    refine wpAnyR_done (by kernel_rfl) ?_ _
                    have hrows : (N.take q).map refC ++ [refC (l.id, l.unit)] ++ (N.drop q).map refC = (insP N (l.id, l.unit)).map refC := by
                      rw [HINS.out, List.map_append, List.map_append, List.append_assoc]; rfl
                    rw [hrows] at hown3
                    obtain ⟨g4, cap4, hv4⟩ : ∃ g4 cap4, v3 = .slice (some ⟨g4, 0, none⟩) (insP N (l.id, l.unit)).length cap4 := by
                      rcases hown3.form with ⟨_, h0⟩ | ⟨g4, cap4, h1, _⟩
                      · have := congrArg List.length h0
                        rw [List.length_map, (insP_perm _ _).length_eq] at this
                        simp at this
                      · rw [List.length_map] at h1; exact ⟨g4, cap4, h1⟩
                    subst hv4
                    have HO5 := Lib.hid (hown3.lower2 (show w.heap.size ≤ wa.heap.size from HGa.out.size))
                    have HB5 := Lib.hid (HBa.out.grew gg3)
                    have HG5 := Lib.hid (HGa.out.trans gg3)
                    clear hown3 hrows hgr3 hat3 hown2 hgr2 hat2 hlt2 hownc gg2 gg3 hS
                    go_wp2_with fail
                    go_roundg (T.labels.length - (k + 1))
                    case measure => rw [HGK.out]; omega
                    case rel => exact ⟨k + 1, by omega, by omega, by go_num, ⟨g4, cap4, by rw [HF.out], by rw [HF.out]; exact HO5.out⟩, HB5.out, HG5.out⟩
                  case' s1xb =>
                    intro K' hK
                    rw [if_pos (by rfl)]
                    simp only [List.getElem_toArray, List.getElem_cons_succ, List.getElem_cons_zero]
                    go_wp2_with fail
                    refine hK.out _ _ (.inr (fun _ => ⟨(HXq.out.grew gEX).cell 0, (HXq.out.grew gEX).cell 1⟩)) ?_
                    clear hK
                    have ho1 := ho0.alloc (.cells #[.int .i64 l.id, .int .i64 l.unit] 26)
                    have hxn := Blk.new (wa.alloc (.cells #[] 26)) 26 #[.int .i64 l.id, .int .i64 l.unit] (n := wa.heap.size + 1) (by simp)
                    refine wpAnyR_n1 (i := 4) rfl (by kernel_rfl) ?_
                    intro K' hK
                    rw [if_pos (by rfl)]
                    simp only [List.getElem_toArray, List.getElem_cons_succ, List.getElem_cons_zero]
                    refine wp_pushAll (.tmp 49) (.tmp 52) 36 rfl wa.heap.size 26 2 16 _ Tryz.underlying36 info_ref rfl (by decide) _ [] ((N.take q).map refC) rfl ho1 _ q _ rfl (by rw [List.length_map, List.length_take]; omega) refC_row (by have h9 := ((HOq.out.grew gEX).listA).take q; rwa [← List.map_take] at h9) refC_one (by simp; omega) (by simp; omega) gEX.size ?_
                    intro v1 w1 hown1 hgr1 hat1
                    rw [List.nil_append] at hown1
                    have g1 : Grew wa w1 := Grew.own gEX hgr1 ho1.row_ge (Nat.le_refl _)
                    have hxn1 := hxn.own hgr1 (own_ne _ _ (by omega))
                    refine hK.out _ _ (.inr (fun _ => ⟨(HXq.out.grew g1).cell 0, (HXq.out.grew g1).cell 1⟩)) ?_
                    clear hK
                    have hownc := hown1
                    refine wpAnyR_n1 (i := 7) rfl (by kernel_rfl) ?_
                    intro K' hK
                    rw [if_pos (by rfl)]
                    simp only [List.getElem_toArray, List.getElem_cons_succ, List.getElem_cons_zero]
                    refine wp_push (.tmp 53) (.tmp 55) 36 rfl wa.heap.size 26 2 16 _ Tryz.underlying36 info_ref rfl (by decide) _ _ ((N.take q).map refC) (refC (l.id, l.unit)) rfl rfl hownc _ rfl hxn1 rfl (by rw [List.length_map, List.length_take]; omega) (by rw [List.length_map, List.length_take]; omega) g1.size q (by rw [List.length_map, List.length_take]; omega) ?_
                    intro g2 cap2 w2 hown2 hgr2 hat2 hlt2
                    have gg2 : Grew wa w2 := Grew.own g1 hgr2 hownc.row_ge (Nat.le_refl _)
                    refine hK.out _ _ (.inr (fun _ => ⟨(HXq.out.grew gg2).cell 0, (HXq.out.grew gg2).cell 1⟩)) ?_
                    clear hK
                    refine wpAnyR_n1 (i := 11) rfl (by kernel_rfl) ?_
                    intro K' hK
                    rw [if_pos (by rfl)]
                    simp only [List.getElem_toArray, List.getElem_cons_succ, List.getElem_cons_zero]
                    refine wp_pushAll (.tmp 56) (.tmp 59) 36 rfl wa.heap.size 26 2 16 _ Tryz.underlying36 info_ref rfl (by decide) _ _ ((N.drop q).map refC) rfl hown2 _ (N.length - q) _ (by first | rfl | (simp [Act.eval]; done)) (by rw [List.length_map, List.length_drop]) refC_row (by have h9 := ((HOq.out.grew gg2).listA).drop q (off' := q * 2) (by omega); rwa [← List.map_drop] at h9) refC_one (by rw [List.length_append, List.length_map, List.length_take]; simp; omega) (by rw [List.length_append, List.length_map, List.length_take]; simp; omega) gg2.size ?_
                    intro v3 w5 hown3 hgr3 hat3
                    have gg3 : Grew wa w5 := Grew.own gg2 hgr3 hown2.row_ge (Nat.le_refl _)
                    refine hK.out _ _ (.inr (fun _ => ⟨(HXq.out.grew gg3).cell 0, (HXq.out.grew gg3).cell 1⟩)) ?_
                    clear hK
                    refine wpAnyR_takeQ (i := 12) (v := ?_) (some 3) rfl rfl (by kernel_rfl) (by kernel_rfl) (by kernel_rfl) (by kernel_rfl) (fun _ _ _ h => h) (Or.inl ⟨by rfl, ?_⟩) ?_
                    rotate_left
                    focus (intro wS hSw; (try dsimp only at hSw); go_simp; (try with_reducible rfl); (try (first | (rw [if_pos (by omega)]; (try go_simp); (try with_reducible rfl)) | (rw [if_neg (by omega)]; (try go_simp); (try with_reducible rfl)))))
                    try simp only [Act.put, List.setIfInBounds_toArray, List.set_cons_zero, List.set_cons_succ]
                    refine wpAnyR_done (by kernel_rfl) ?_ _
                    have hrows : (N.take q).map refC ++ [refC (l.id, l.unit)] ++ (N.drop q).map refC = (insP N (l.id, l.unit)).map refC := by
                      rw [HINS.out, List.map_append, List.map_append, List.append_assoc]; rfl
                    rw [hrows] at hown3
                    obtain ⟨g4, cap4, hv4⟩ : ∃ g4 cap4, v3 = .slice (some ⟨g4, 0, none⟩) (insP N (l.id, l.unit)).length cap4 := by
                      rcases hown3.form with ⟨_, h0⟩ | ⟨g4, cap4, h1, _⟩
                      · have := congrArg List.length h0
                        rw [List.length_map, (insP_perm _ _).length_eq] at this
                        simp at this
                      · rw [List.length_map] at h1; exact ⟨g4, cap4, h1⟩
                    subst hv4
                    have HO5 := Lib.hid (hown3.lower2 (show w.heap.size ≤ wa.heap.size from HGa.out.size))
                    have HB5 := Lib.hid (HBa.out.grew gg3)
                    have HG5 := Lib.hid (HGa.out.trans gg3)
                    clear hown3 hrows hgr3 hat3 hown2 hgr2 hat2 hlt2 hownc gg2 gg3 hS
                    go_wp2_with fail
                    go_roundg (T.labels.length - (k + 1))
                    case measure => rw [HGK.out]; omega
                    case rel => exact ⟨k + 1, by omega, by omega, by go_num, ⟨g4, cap4, by rw [HF.out], by rw [HF.out]; exact HO5.out⟩, HB5.out, HG5.out⟩
                case' s1b =>
                  intro K' hK
                  rw [if_pos (by rfl)]
                  simp only [List.getElem_toArray, List.getElem_cons_succ, List.getElem_cons_zero]
                  go_wp2_with fail
                  refine hK.out _ _ (.inr (fun _ => ⟨(HXq.out.grew gX).cell 0, (HXq.out.grew gX).cell 1⟩)) ?_
                  clear hK
                  have hxn := (Blk.new wa 26 #[.int .i64 l.id, .int .i64 l.unit] rfl).alloc (.cells #[] 26)
                  refine wpAnyR_n1 (i := 0) rfl (by kernel_rfl) ?_
                  intro K' hK
                  rw [if_pos (by rfl)]
                  simp only [List.getElem_toArray, List.getElem_cons_succ, List.getElem_cons_zero]
                  go_wp2_with fail
                  have ho1 : OwnL ((wa.alloc (.cells #[.int .i64 l.id, .int .i64 l.unit] 26)).alloc (.cells #[] 26)) wa.heap.size 26 2 (.slice (some ⟨wa.heap.size + 1, 0, none⟩) 0 0) [] := OwnL.empty _ _ _ _ (by simp) (by simp)
                  refine hK.out _ _ (.inr (fun _ => ⟨(HXq.out.grew gXE).cell 0, (HXq.out.grew gXE).cell 1⟩)) ?_
                  clear hK
                  refine wpAnyR_n1 (i := 4) rfl (by kernel_rfl) ?_
                  intro K' hK
                  rw [if_pos (by rfl)]
                  simp only [List.getElem_toArray, List.getElem_cons_succ, List.getElem_cons_zero]
                  refine wp_pushAll (.tmp 49) (.tmp 52) 36 rfl wa.heap.size 26 2 16 _ Tryz.underlying36 info_ref rfl (by decide) _ [] ((N.take q).map refC) rfl ho1 _ q _ rfl (by rw [List.length_map, List.length_take]; omega) refC_row (by have h9 := ((HOq.out.grew gXE).listA).take q; rwa [← List.map_take] at h9) refC_one (by simp; omega) (by simp; omega) gXE.size ?_
                  intro v1 w1 hown1 hgr1 hat1
                  rw [List.nil_append] at hown1
                  have g1 : Grew wa w1 := Grew.own gXE hgr1 ho1.row_ge (Nat.le_refl _)
                  have hxn1 := hxn.own hgr1 (own_ne _ _ (by omega))
                  refine hK.out _ _ (.inr (fun _ => ⟨(HXq.out.grew g1).cell 0, (HXq.out.grew g1).cell 1⟩)) ?_
                  clear hK
                  have hownc := hown1
                  refine wpAnyR_n1 (i := 7) rfl (by kernel_rfl) ?_
                  intro K' hK
                  rw [if_pos (by rfl)]
                  simp only [List.getElem_toArray, List.getElem_cons_succ, List.getElem_cons_zero]
                  refine wp_push (.tmp 53) (.tmp 55) 36 rfl wa.heap.size 26 2 16 _ Tryz.underlying36 info_ref rfl (by decide) _ _ ((N.take q).map refC) (refC (l.id, l.unit)) rfl rfl hownc _ rfl hxn1 rfl (by rw [List.length_map, List.length_take]; omega) (by rw [List.length_map, List.length_take]; omega) g1.size q (by rw [List.length_map, List.length_take]; omega) ?_
                  intro g2 cap2 w2 hown2 hgr2 hat2 hlt2
                  have gg2 : Grew wa w2 := Grew.own g1 hgr2 hownc.row_ge (Nat.le_refl _)
                  refine hK.out _ _ (.inr (fun _ => ⟨(HXq.out.grew gg2).cell 0, (HXq.out.grew gg2).cell 1⟩)) ?_
                  clear hK
                  refine wpAnyR_n1 (i := 11) rfl (by kernel_rfl) ?_
                  intro K' hK
                  rw [if_pos (by rfl)]
                  simp only [List.getElem_toArray, List.getElem_cons_succ, List.getElem_cons_zero]
                  refine wp_pushAll (.tmp 56) (.tmp 59) 36 rfl wa.heap.size 26 2 16 _ Tryz.underlying36 info_ref rfl (by decide) _ _ ((N.drop q).map refC) rfl hown2 _ (N.length - q) _ (by first | rfl | (simp [Act.eval]; done)) (by rw [List.length_map, List.length_drop]) refC_row (by have h9 := ((HOq.out.grew gg2).listA).drop q (off' := q * 2) (by omega); rwa [← List.map_drop] at h9) refC_one (by rw [List.length_append, List.length_map, List.length_take]; simp; omega) (by rw [List.length_append, List.length_map, List.length_take]; simp; omega) gg2.size ?_
                  intro v3 w5 hown3 hgr3 hat3
                  have gg3 : Grew wa w5 := Grew.own gg2 hgr3 hown2.row_ge (Nat.le_refl _)
                  refine hK.out _ _ (.inr (fun _ => ⟨(HXq.out.grew gg3).cell 0, (HXq.out.grew gg3).cell 1⟩)) ?_
                  clear hK
                  refine wpAnyR_takeQ (i := 12) (v := ?_) (some 3) rfl rfl (by kernel_rfl) (by kernel_rfl) (by kernel_rfl) (by kernel_rfl) (fun _ _ _ h => h) (Or.inl ⟨by rfl, ?_⟩) ?_
                  rotate_left
                  focus (intro wS hSw; (try dsimp only at hSw); go_simp; (try with_reducible rfl); (try (first | (rw [if_pos (by omega)]; (try go_simp); (try with_reducible rfl)) | (rw [if_neg (by omega)]; (try go_simp); (try with_reducible rfl)))))
                  try simp only [Act.put, List.setIfInBounds_toArray, List.set_cons_zero, List.set_cons_succ]
                  refine wpAnyR_done (by kernel_rfl) ?_ _
                  have hrows : (N.take q).map refC ++ [refC (l.id, l.unit)] ++ (N.drop q).map refC = (insP N (l.id, l.unit)).map refC := by
                    rw [HINS.out, List.map_append, List.map_append, List.append_assoc]; rfl
                  rw [hrows] at hown3
                  obtain ⟨g4, cap4, hv4⟩ : ∃ g4 cap4, v3 = .slice (some ⟨g4, 0, none⟩) (insP N (l.id, l.unit)).length cap4 := by
                    rcases hown3.form with ⟨_, h0⟩ | ⟨g4, cap4, h1, _⟩
                    · have := congrArg List.length h0
                      rw [List.length_map, (insP_perm _ _).length_eq] at this
                      simp at this
                    · rw [List.length_map] at h1; exact ⟨g4, cap4, h1⟩
                  subst hv4
                  have HO5 := Lib.hid (hown3.lower2 (show w.heap.size ≤ wa.heap.size from HGa.out.size))
                  have HB5 := Lib.hid (HBa.out.grew gg3)
                  have HG5 := Lib.hid (HGa.out.trans gg3)
                  clear hown3 hrows hgr3 hat3 hown2 hgr2 hat2 hlt2 hownc gg2 gg3 hS
                  go_wp2_with fail
                  go_roundg (T.labels.length - (k + 1))
                  case measure => rw [HGK.out]; omega
                  case rel => exact ⟨k + 1, by omega, by omega, by go_num, ⟨g4, cap4, by rw [HF.out], by rw [HF.out]; exact HO5.out⟩, HB5.out, HG5.out⟩
          · have HWHY := Lib.hid (show q = N.length ∨ ∃ h : q < N.length, ltP (l.id, l.unit) N[q] from .inl (by omega))
            have HD := Lib.hid (show decide ((q : Int) < (N.length : Int)) = false from decide_eq_false (by omega))
            have hqi : ¬ (q : Int) < (N.length : Int) := by omega
            have HXX := Lib.hid hxq
            have HOO := Lib.hid hoq
            have HBB := Lib.hid hbq
            have HGG := Lib.hid hgq
            clear hxq hoq hbq hgq
            go_wp2_with fail
            refine wp_region_R [] (fun _ : World => True) (by kernel_rfl) ?_
            have hS : (fun _ : World => True) wq.drew := trivial
            refine wpAnyR_takeQ (i := 0) (v := ?_) (some 34) rfl rfl (by kernel_rfl) (by kernel_rfl) (by kernel_rfl) (by kernel_rfl) (fun _ _ _ h => h) (Or.inl ⟨by rfl, ?_⟩) ?_
            rotate_left
            focus (intro wS hSw; (try dsimp only at hSw); go_simp; (try with_reducible rfl); (try (first | (rw [if_pos (by omega)]; (try go_simp); (try with_reducible rfl)) | (rw [if_neg (by omega)]; (try go_simp); (try with_reducible rfl)))))
            try simp only [Act.put, List.setIfInBounds_toArray, List.set_cons_zero, List.set_cons_succ]
            refine wpAnyR_takeQ (i := 1) (v := ?_) (some 35) rfl rfl (by kernel_rfl) (by kernel_rfl) (by kernel_rfl) (by kernel_rfl) (fun _ _ _ h => h) (Or.inl ⟨by rfl, ?_⟩) ?_
            rotate_left
            focus (intro wS hSw; (try dsimp only at hSw); go_simp; (try with_reducible rfl); (try (first | (rw [if_pos (by omega)]; (try go_simp); (try with_reducible rfl)) | (rw [if_neg (by omega)]; (try go_simp); (try with_reducible rfl)))))
            try simp only [Act.put, List.setIfInBounds_toArray, List.set_cons_zero, List.set_cons_succ]
            refine wpAnyR_take (i := 2) (v := ?_) [3, 4, 5, 6, 7, 8, 9, 10, 11, 12] (some 36) rfl rfl (by kernel_rfl) (by kernel_rfl) (by kernel_rfl) (by kernel_rfl) (by kernel_rfl) (by kernel_rfl) (by kernel_rfl) (fun _ _ _ h => h) (Or.inl ⟨by rfl, ?_⟩) hS ?_
            rotate_left
            focus (intro wS hSw; (try dsimp only at hSw); go_simp; (try with_reducible rfl); (try (first | (rw [if_pos (by omega)]; (try go_simp); (try with_reducible rfl)) | (rw [if_neg (by omega)]; (try go_simp); (try with_reducible rfl)))))
            try simp only [Act.put, List.setIfInBounds_toArray, List.set_cons_zero, List.set_cons_succ]
            refine wpAnyR_takeQ (i := 3) (v := ?_) (some 37) rfl rfl (by kernel_rfl) (by kernel_rfl) (by kernel_rfl) (by kernel_rfl) (fun _ _ _ h => h) (Or.inl ⟨by rfl, ?_⟩) ?_
            rotate_left
            focus (intro wS hSw; (try dsimp only at hSw); go_simp; (try with_reducible rfl); (try (first | (rw [if_pos (by omega)]; (try go_simp); (try with_reducible rfl)) | (rw [if_neg (by omega)]; (try go_simp); (try with_reducible rfl)))))
            try simp only [Act.put, List.setIfInBounds_toArray, List.set_cons_zero, List.set_cons_succ]
            try rw [HD.out]
            refine wpAnyR_takeQ (i := 4) (v := ?_) (some 38) rfl rfl (by kernel_rfl) (by kernel_rfl) (by kernel_rfl) (by kernel_rfl) (fun _ _ _ h => h) (Or.inl ⟨by rfl, ?_⟩) ?_
            rotate_left
            focus (intro wS hSw; (try dsimp only at hSw); go_simp; (try with_reducible rfl); (try (first | (rw [if_pos (by omega)]; (try go_simp); (try with_reducible rfl)) | (rw [if_neg (by omega)]; (try go_simp); (try with_reducible rfl)))))
            try simp only [Act.put, List.setIfInBounds_toArray, List.set_cons_zero, List.set_cons_succ]
            refine wpAnyR_takeQ (i := 5) (v := undef) (some 39) rfl rfl (by kernel_rfl) (by kernel_rfl) (by kernel_rfl) (by kernel_rfl) (fun _ _ _ h => h) (Or.inr ⟨by rfl, rfl⟩) ?_
            try simp only [Act.put, List.setIfInBounds_toArray, List.set_cons_zero, List.set_cons_succ]
            refine wpAnyR_takeQ (i := 6) (v := undef) (some 40) rfl rfl (by kernel_rfl) (by kernel_rfl) (by kernel_rfl) (by kernel_rfl) (fun _ _ _ h => h) (Or.inr ⟨by rfl, rfl⟩) ?_
            try simp only [Act.put, List.setIfInBounds_toArray, List.set_cons_zero, List.set_cons_succ]
            refine wpAnyR_takeQ (i := 7) (v := undef) (some 41) rfl rfl (by kernel_rfl) (by kernel_rfl) (by kernel_rfl) (by kernel_rfl) (fun _ _ _ h => h) (Or.inr ⟨by rfl, rfl⟩) ?_
            try simp only [Act.put, List.setIfInBounds_toArray, List.set_cons_zero, List.set_cons_succ]
            refine wpAnyR_takeQ (i := 8) (v := undef) (some 42) rfl rfl (by kernel_rfl) (by kernel_rfl) (by kernel_rfl) (by kernel_rfl) (fun _ _ _ h => h) (Or.inr ⟨by rfl, rfl⟩) ?_
            try simp only [Act.put, List.setIfInBounds_toArray, List.set_cons_zero, List.set_cons_succ]
            refine wpAnyR_takeQ (i := 9) (v := undef) (some 43) rfl rfl (by kernel_rfl) (by kernel_rfl) (by kernel_rfl) (by kernel_rfl) (fun _ _ _ h => h) (Or.inr ⟨by rfl, rfl⟩) ?_
            try simp only [Act.put, List.setIfInBounds_toArray, List.set_cons_zero, List.set_cons_succ]
            refine wpAnyR_takeQ (i := 10) (v := undef) (some 44) rfl rfl (by kernel_rfl) (by kernel_rfl) (by kernel_rfl) (by kernel_rfl) (fun _ _ _ h => h) (Or.inr ⟨by rfl, rfl⟩) ?_
            try simp only [Act.put, List.setIfInBounds_toArray, List.set_cons_zero, List.set_cons_succ]
            refine wpAnyR_takeQ (i := 11) (v := undef) (some 45) rfl rfl (by kernel_rfl) (by kernel_rfl) (by kernel_rfl) (by kernel_rfl) (fun _ _ _ h => h) (Or.inr ⟨by rfl, rfl⟩) ?_
            try simp only [Act.put, List.setIfInBounds_toArray, List.set_cons_zero, List.set_cons_succ]
            refine wpAnyR_takeQ (i := 12) (v := ?_) (some 46) rfl rfl (by kernel_rfl) (by kernel_rfl) (by kernel_rfl) (by kernel_rfl) (fun _ _ _ h => h) (Or.inl ⟨by rfl, ?_⟩) ?_
            rotate_left
            focus (intro wS hSw; (try dsimp only at hSw); go_simp; (try with_reducible rfl); (try (first | (rw [if_pos (by omega)]; (try go_simp); (try with_reducible rfl)) | (rw [if_neg (by omega)]; (try go_simp); (try with_reducible rfl)))))
            try simp only [Act.put, List.setIfInBounds_toArray, List.set_cons_zero, List.set_cons_succ]
            refine wpAnyR_done (by kernel_rfl) ?_ _
            clear hS
            obtain ⟨wz, hwz⟩ : ∃ wz, wz = wq.drew := ⟨_, rfl⟩
            rw [← hwz]
            have hgz : Grew wq wz := by rw [hwz]; exact (Grew.refl wq).drew
            have hxq := HXX.out.grew hgz
            have hoq := HOO.out.grew hgz
            have hbq := HBB.out.grew hgz
            have hgq := HGG.out.trans hgz
            clear hwz hgz
            have HINS := Lib.hid (insP_at (l.id, l.unit) N q (by omega) HNQ.out HWHY.out)
            obtain ⟨hnc, hcm⟩ : N.length ≤ cap ∧ cap ≤ 9223372036854775807 := by
              have h9 := hoq.form
              rcases h9 with ⟨h0, _⟩ | ⟨g9, c9, h1, _, _, h3, h4⟩
              · cases h0
              · rw [List.length_map] at h1 h3
                injection h1 with _ _ h1
                omega
            by_cases hcq : cap = q
            · have hqn2 : N.length ≤ q := by omega
              have hcq' := hcq.symm
              subst hcq'
              clear hcq
              go_wp2_with fail
              refine wp_region_R [] (fun w' : World => w'.cell? ⟨w3.heap.size, 0, none⟩ = some (.int .i64 l.id) ∧ w'.cell? ⟨w3.heap.size, 1, none⟩ = some (.int .i64 l.unit)) (by kernel_rfl) ?_
              obtain ⟨wa, hwa⟩ : ∃ wa, wa = wz.drew := ⟨_, rfl⟩
              rw [← hwa]
              have HXq := Lib.hid (show Blk wa w3.heap.size 26 #[.int .i64 l.id, .int .i64 l.unit] from by rw [hwa]; exact hxq.drew)
              have HOq := Lib.hid (show OwnL wa w.heap.size 26 2 (.slice (some ⟨g, 0, none⟩) N.length q) (N.map refC) from by rw [hwa]; exact hoq.drew)
              have HBa := Lib.hid (show Blk wa w.heap.size 24 #[.string T.name, .int .i64 T.tracks, .slice (some ⟨b, off, none⟩) T.labels.length c] from by rw [hwa]; exact hbq.drew)
              have HGa := Lib.hid (show Grew w wa from by rw [hwa]; exact hgq.drew)
              clear hwa hxq hoq hbq hgq
              have hS : (fun w' : World => w'.cell? ⟨w3.heap.size, 0, none⟩ = some (.int .i64 l.id) ∧ w'.cell? ⟨w3.heap.size, 1, none⟩ = some (.int .i64 l.unit)) wa := ⟨HXq.out.cell 0, HXq.out.cell 1⟩
              have gE := (Grew.refl wa).alloc (.cells #[] 26)
              have gX := (Grew.refl wa).alloc (.cells #[.int .i64 l.id, .int .i64 l.unit] 26)
              have gEX := gE.alloc (.cells #[.int .i64 l.id, .int .i64 l.unit] 26)
              have gXE := gX.alloc (.cells #[] 26)
              refine wpAnyR_takeQ (i := 1) (v := ?_) (some 50) rfl rfl (by kernel_rfl) (by kernel_rfl) (by kernel_rfl) (by kernel_rfl) (fun _ _ _ h => h) (Or.inl ⟨by rfl, ?_⟩) ?_
              rotate_left
              focus (intro wS hSw; (try dsimp only at hSw); go_simp; (try with_reducible rfl); (try (first | (rw [if_pos (by omega)]; (try go_simp); (try with_reducible rfl)) | (rw [if_neg (by omega)]; (try go_simp); (try with_reducible rfl)))))
              try simp only [Act.put, List.setIfInBounds_toArray, List.set_cons_zero, List.set_cons_succ]
              refine wpAnyR_takeQ (i := 2) (v := ?_) (some 51) rfl rfl (by kernel_rfl) (by kernel_rfl) (by kernel_rfl) (by kernel_rfl) (fun _ _ _ h => h) (Or.inl ⟨by rfl, ?_⟩) ?_
              rotate_left
              focus (intro wS hSw; (try dsimp only at hSw); go_simp; (try with_reducible rfl); (try (first | (rw [if_pos (by omega)]; (try go_simp); (try with_reducible rfl)) | (rw [if_neg (by omega)]; (try go_simp); (try with_reducible rfl)))))
              try simp only [Act.put, List.setIfInBounds_toArray, List.set_cons_zero, List.set_cons_succ]
              refine wpAnyR_takeQ (i := 3) (v := ?_) (some 52) rfl rfl (by kernel_rfl) (by kernel_rfl) (by kernel_rfl) (by kernel_rfl) (fun _ _ _ h => h) (Or.inl ⟨by rfl, ?_⟩) ?_
              rotate_left
              focus (intro wS hSw; (try dsimp only at hSw); go_simp; (try with_reducible rfl); (try (first | (rw [if_pos (by omega)]; (try go_simp); (try with_reducible rfl)) | (rw [if_neg (by omega)]; (try go_simp); (try with_reducible rfl)))))
              try simp only [Act.put, List.setIfInBounds_toArray, List.set_cons_zero, List.set_cons_succ]
              refine wpAnyR_take (i := 5) (v := ?_) [6, 7, 11, 12] (some 54) rfl rfl (by kernel_rfl) (by kernel_rfl) (by kernel_rfl) (by kernel_rfl) (by kernel_rfl) (by kernel_rfl) (by kernel_rfl) (fun _ _ _ h => h) (Or.inl ⟨by rfl, ?_⟩) hS ?_
              rotate_left
              focus (intro wS hSw; (try dsimp only at hSw); go_simp; (try with_reducible rfl); (try (first | (rw [if_pos (by omega)]; (try go_simp); (try with_reducible rfl)) | (rw [if_neg (by omega)]; (try go_simp); (try with_reducible rfl)))))
              try simp only [Act.put, List.setIfInBounds_toArray, List.set_cons_zero, List.set_cons_succ]
              refine wpAnyR_takeQ (i := 8) (v := ?_) (some 57) rfl rfl (by kernel_rfl) (by kernel_rfl) (by kernel_rfl) (by kernel_rfl) (fun _ _ _ h => h) (Or.inl ⟨by rfl, ?_⟩) ?_
              rotate_left
              focus (intro wS hSw; (try dsimp only at hSw); go_simp; (try with_reducible rfl); (try (first | (rw [if_pos (by omega)]; (try go_simp); (try with_reducible rfl)) | (rw [if_neg (by omega)]; (try go_simp); (try with_reducible rfl)))))
              try simp only [Act.put, List.setIfInBounds_toArray, List.set_cons_zero, List.set_cons_succ]
              refine wpAnyR_takeQ (i := 9) (v := ?_) (some 58) rfl rfl (by kernel_rfl) (by kernel_rfl) (by kernel_rfl) (by kernel_rfl) (fun _ _ _ h => h) (Or.inl ⟨by rfl, ?_⟩) ?_
              rotate_left
              focus (intro wS hSw; (try dsimp only at hSw); go_simp; (try with_reducible rfl); (try (first | (rw [if_pos (by omega)]; (try go_simp); (try with_reducible rfl)) | (rw [if_neg (by omega)]; (try go_simp); (try with_reducible rfl)))))
              try simp only [Act.put, List.setIfInBounds_toArray, List.set_cons_zero, List.set_cons_succ]
              refine wpAnyR_takeQ (i := 10) (v := ?_) (some 59) rfl rfl (by kernel_rfl) (by kernel_rfl) (by kernel_rfl) (by kernel_rfl) (fun _ _ _ h => h) (Or.inl ⟨by rfl, ?_⟩) ?_
              rotate_left
              focus (intro wS hSw; (try dsimp only at hSw); go_simp; (try with_reducible rfl); (try (first | (rw [if_pos (by omega)]; (try go_simp); (try with_reducible rfl)) | (rw [if_neg (by omega)]; (try go_simp); (try with_reducible rfl)))))
              try simp only [Act.put, List.setIfInBounds_toArray, List.set_cons_zero, List.set_cons_succ]
              refine wpAnyR_n2 (i := 0) (j := 6) rfl rfl (by kernel_rfl) ?p2a ?p2b
              case' p2a =>
                intro K' hK
                rw [if_pos (by rfl)]
                simp only [List.getElem_toArray, List.getElem_cons_succ, List.getElem_cons_zero]
                go_wp2_with fail
                refine hK.out _ _ (.inr (fun _ => ⟨(HXq.out.grew gE).cell 0, (HXq.out.grew gE).cell 1⟩)) ?_
                clear hK
                have ho0 : OwnL (wa.alloc (.cells #[] 26)) wa.heap.size 26 2 (.slice (some ⟨wa.heap.size, 0, none⟩) 0 0) [] := OwnL.empty _ _ _ _ (Nat.le_refl _) rfl
                refine wpAnyR_n2 (i := 4) (j := 6) rfl rfl (by kernel_rfl) ?p2xa ?p2xb
                case' p2xa =>
                  intro K' hK
                  rw [if_pos (by rfl)]
                  simp only [List.getElem_toArray, List.getElem_cons_succ, List.getElem_cons_zero]
                  refine wp_pushAll (.tmp 49) (.tmp 52) 36 rfl wa.heap.size 26 2 16 _ Tryz.underlying36 info_ref rfl (by decide) _ [] ((N.take q).map refC) rfl ho0 _ q _ rfl (by rw [List.length_map, List.length_take]; omega) refC_row (by have h9 := ((HOq.out.grew gE).listA).take q; rwa [← List.map_take] at h9) refC_one (by simp; omega) (by simp; omega) gE.size ?_
                  intro v1 w1 hown1 hgr1 hat1
                  rw [List.nil_append] at hown1
                  have g1 : Grew wa w1 := Grew.own gE hgr1 ho0.row_ge (Nat.le_refl _)
                  refine hK.out _ _ (.inr (fun _ => ⟨(HXq.out.grew g1).cell 0, (HXq.out.grew g1).cell 1⟩)) ?_
                  clear hK
                  refine wpAnyR_n1 (i := 6) rfl (by kernel_rfl) ?_
                  intro K' hK
                  rw [if_pos (by rfl)]
                  simp only [List.getElem_toArray, List.getElem_cons_succ, List.getElem_cons_zero]
                  go_wp2_with fail
                  have gc := g1.alloc (.cells #[.int .i64 l.id, .int .i64 l.unit] 26)
                  have hownc := hown1.alloc (.cells #[.int .i64 l.id, .int .i64 l.unit] 26)
                  have hxn := Blk.new w1 26 #[.int .i64 l.id, .int .i64 l.unit] rfl
                  refine hK.out _ _ (.inr (fun _ => ⟨(HXq.out.grew gc).cell 0, (HXq.out.grew gc).cell 1⟩)) ?_
                  clear hK hown1 hgr1 hat1
                  refine wpAnyR_n1 (i := 7) rfl (by kernel_rfl) ?_
                  intro K' hK
                  rw [if_pos (by rfl)]
                  simp only [List.getElem_toArray, List.getElem_cons_succ, List.getElem_cons_zero]
                  refine wp_push (.tmp 53) (.tmp 55) 36 rfl wa.heap.size 26 2 16 _ Tryz.underlying36 info_ref rfl (by decide) _ _ ((N.take q).map refC) (refC (l.id, l.unit)) rfl rfl hownc _ rfl hxn rfl (by rw [List.length_map, List.length_take]; omega) (by rw [List.length_map, List.length_take]; omega) gc.size q (by rw [List.length_map, List.length_take]; omega) ?_
                  intro g2 cap2 w2 hown2 hgr2 hat2 hlt2
                  have gg2 : Grew wa w2 := Grew.own gc hgr2 hownc.row_ge (Nat.le_refl _)
                  refine hK.out _ _ (.inr (fun _ => ⟨(HXq.out.grew gg2).cell 0, (HXq.out.grew gg2).cell 1⟩)) ?_
                  clear hK
                  refine wpAnyR_n1 (i := 11) rfl (by kernel_rfl) ?_
                  intro K' hK
                  rw [if_pos (by rfl)]
                  simp only [List.getElem_toArray, List.getElem_cons_succ, List.getElem_cons_zero]
                  refine wp_pushAll (.tmp 56) (.tmp 59) 36 rfl wa.heap.size 26 2 16 _ Tryz.underlying36 info_ref rfl (by decide) _ _ ((N.drop q).map refC) rfl hown2 _ 0 _ rfl (by rw [List.length_map, List.length_drop]; omega) refC_row (by rw [List.drop_of_length_le (by omega)]; exact ListAt.none _) refC_one (by rw [List.length_append, List.length_map, List.length_take]; simp; omega) (by rw [List.length_append, List.length_map, List.length_take]; simp; omega) gg2.size ?_
                  intro v3 w5 hown3 hgr3 hat3
                  have gg3 : Grew wa w5 := Grew.own gg2 hgr3 hown2.row_ge (Nat.le_refl _)
                  refine hK.out _ _ (.inr (fun _ => ⟨(HXq.out.grew gg3).cell 0, (HXq.out.grew gg3).cell 1⟩)) ?_
                  clear hK
                  refine wpAnyR_takeQ (i := 12) (v := ?_) (some 3) rfl rfl (by kernel_rfl) (by kernel_rfl) (by kernel_rfl) (by kernel_rfl) (fun _ _ _ h => h) (Or.inl ⟨by rfl, ?_⟩) ?_
                  rotate_left
                  focus (intro wS hSw; (try dsimp only at hSw); go_simp; (try with_reducible rfl); (try (first | (rw [if_pos (by omega)]; (try go_simp); (try with_reducible rfl)) | (rw [if_neg (by omega)]; (try go_simp); (try with_reducible rfl)))))
                  try simp only [Act.put, List.setIfInBounds_toArray, List.set_cons_zero, List.set_cons_succ]
                  refine wpAnyR_done (by kernel_rfl) ?_ _
                  have hrows : (N.take q).map refC ++ [refC (l.id, l.unit)] ++ (N.drop q).map refC = (insP N (l.id, l.unit)).map refC := by
                    rw [HINS.out, List.map_append, List.map_append, List.append_assoc]; rfl
                  rw [hrows] at hown3
                  obtain ⟨g4, cap4, hv4⟩ : ∃ g4 cap4, v3 = .slice (some ⟨g4, 0, none⟩) (insP N (l.id, l.unit)).length cap4 := by
                    rcases hown3.form with ⟨_, h0⟩ | ⟨g4, cap4, h1, _⟩
                    · have := congrArg List.length h0
                      rw [List.length_map, (insP_perm _ _).length_eq] at this
                      simp at this
                    · rw [List.length_map] at h1; exact ⟨g4, cap4, h1⟩
                  subst hv4
                  have HO5 := Lib.hid (hown3.lower2 (show w.heap.size ≤ wa.heap.size from HGa.out.size))
                  have HB5 := Lib.hid (HBa.out.grew gg3)
                  have HG5 := Lib.hid (HGa.out.trans gg3)
                  clear hown3 hrows hgr3 hat3 hown2 hgr2 hat2 hlt2 hownc gg2 gg3 hS
                  go_wp2_with fail
                  go_roundg (T.labels.length - (k + 1))
                  case measure => rw [HGK.out]; omega
                  case rel => exact ⟨k + 1, by omega, by omega, by go_num, ⟨g4, cap4, by rw [HF.out], by rw [HF.out]; exact HO5.out⟩, HB5.out, HG5.out⟩
                case' p2xb =>
                  intro K' hK
                  rw [if_pos (by rfl)]
                  simp only [List.getElem_toArray, List.getElem_cons_succ, List.getElem_cons_zero]
                  go_wp2_with fail
                  refine hK.out _ _ (.inr (fun _ => ⟨(HXq.out.grew gEX).cell 0, (HXq.out.grew gEX).cell 1⟩)) ?_
                  clear hK
                  have ho1 := ho0.alloc (.cells #[.int .i64 l.id, .int .i64 l.unit] 26)
                  have hxn := Blk.new (wa.alloc (.cells #[] 26)) 26 #[.int .i64 l.id, .int .i64 l.unit] (n := wa.heap.size + 1) (by simp)
                  refine wpAnyR_n1 (i := 4) rfl (by kernel_rfl) ?_
                  intro K' hK
                  rw [if_pos (by rfl)]
                  simp only [List.getElem_toArray, List.getElem_cons_succ, List.getElem_cons_zero]
                  refine wp_pushAll (.tmp 49) (.tmp 52) 36 rfl wa.heap.size 26 2 16 _ Tryz.underlying36 info_ref rfl (by decide) _ [] ((N.take q).map refC) rfl ho1 _ q _ rfl (by rw [List.length_map, List.length_take]; omega) refC_row (by have h9 := ((HOq.out.grew gEX).listA).take q; rwa [← List.map_take] at h9) refC_one (by simp; omega) (by simp; omega) gEX.size ?_
                  intro v1 w1 hown1 hgr1 hat1
                  rw [List.nil_append] at hown1
                  have g1 : Grew wa w1 := Grew.own gEX hgr1 ho1.row_ge (Nat.le_refl _)
                  have hxn1 := hxn.own hgr1 (own_ne _ _ (by omega))
                  refine hK.out _ _ (.inr (fun _ => ⟨(HXq.out.grew g1).cell 0, (HXq.out.grew g1).cell 1⟩)) ?_
                  clear hK
                  have hownc := hown1
                  refine wpAnyR_n1 (i := 7) rfl (by kernel_rfl) ?_
                  intro K' hK
                  rw [if_pos (by rfl)]
                  simp only [List.getElem_toArray, List.getElem_cons_succ, List.getElem_cons_zero]
                  refine wp_push (.tmp 53) (.tmp 55) 36 rfl wa.heap.size 26 2 16 _ Tryz.underlying36 info_ref rfl (by decide) _ _ ((N.take q).map refC) (refC (l.id, l.unit)) rfl rfl hownc _ rfl hxn1 rfl (by rw [List.length_map, List.length_take]; omega) (by rw [List.length_map, List.length_take]; omega) g1.size q (by rw [List.length_map, List.length_take]; omega) ?_
                  intro g2 cap2 w2 hown2 hgr2 hat2 hlt2
                  have gg2 : Grew wa w2 := Grew.own g1 hgr2 hownc.row_ge (Nat.le_refl _)
                  refine hK.out _ _ (.inr (fun _ => ⟨(HXq.out.grew gg2).cell 0, (HXq.out.grew gg2).cell 1⟩)) ?_
                  clear hK
                  refine wpAnyR_n1 (i := 11) rfl (by kernel_rfl) ?_
                  intro K' hK
                  rw [if_pos (by rfl)]
                  simp only [List.getElem_toArray, List.getElem_cons_succ, List.getElem_cons_zero]
                  refine wp_pushAll (.tmp 56) (.tmp 59) 36 rfl wa.heap.size 26 2 16 _ Tryz.underlying36 info_ref rfl (by decide) _ _ ((N.drop q).map refC) rfl hown2 _ 0 _ rfl (by rw [List.length_map, List.length_drop]; omega) refC_row (by rw [List.drop_of_length_le (by omega)]; exact ListAt.none _) refC_one (by rw [List.length_append, List.length_map, List.length_take]; simp; omega) (by rw [List.length_append, List.length_map, List.length_take]; simp; omega) gg2.size ?_
                  intro v3 w5 hown3 hgr3 hat3
                  have gg3 : Grew wa w5 := Grew.own gg2 hgr3 hown2.row_ge (Nat.le_refl _)
                  refine hK.out _ _ (.inr (fun _ => ⟨(HXq.out.grew gg3).cell 0, (HXq.out.grew gg3).cell 1⟩)) ?_
                  clear hK
                  refine wpAnyR_takeQ (i := 12) (v := ?_) (some 3) rfl rfl (by kernel_rfl) (by kernel_rfl) (by kernel_rfl) (by kernel_rfl) (fun _ _ _ h => h) (Or.inl ⟨by rfl, ?_⟩) ?_
                  rotate_left
                  focus (intro wS hSw; (try dsimp only at hSw); go_simp; (try with_reducible rfl); (try (first | (rw [if_pos (by omega)]; (try go_simp); (try with_reducible rfl)) | (rw [if_neg (by omega)]; (try go_simp); (try with_reducible rfl)))))
                  try simp only [Act.put, List.setIfInBounds_toArray, List.set_cons_zero, List.set_cons_succ]
                  refine wpAnyR_done (by kernel_rfl) ?_ _
                  have hrows : (N.take q).map refC ++ [refC (l.id, l.unit)] ++ (N.drop q).map refC = (insP N (l.id, l.unit)).map refC := by
                    rw [HINS.out, List.map_append, List.map_append, List.append_assoc]; rfl
                  rw [hrows] at hown3
                  obtain ⟨g4, cap4, hv4⟩ : ∃ g4 cap4, v3 = .slice (some ⟨g4, 0, none⟩) (insP N (l.id, l.unit)).length cap4 := by
                    rcases hown3.form with ⟨_, h0⟩ | ⟨g4, cap4, h1, _⟩
                    · have := congrArg List.length h0
                      rw [List.length_map, (insP_perm _ _).length_eq] at this
                      simp at this
                    · rw [List.length_map] at h1; exact ⟨g4, cap4, h1⟩
                  subst hv4
                  have HO5 := Lib.hid (hown3.lower2 (show w.heap.size ≤ wa.heap.size from HGa.out.size))
                  have HB5 := Lib.hid (HBa.out.grew gg3)
                  have HG5 := Lib.hid (HGa.out.trans gg3)
                  clear hown3 hrows hgr3 hat3 hown2 hgr2 hat2 hlt2 hownc gg2 gg3 hS
                  go_wp2_with fail
                  go_roundg (T.labels.length - (k + 1))
                  case measure => rw [HGK.out]; omega
                  case rel => exact ⟨k + 1, by omega, by omega, by go_num, ⟨g4, cap4, by rw [HF.out], by rw [HF.out]; exact HO5.out⟩, HB5.out, HG5.out⟩
              case' p2b =>
                intro K' hK
                rw [if_pos (by rfl)]
                simp only [List.getElem_toArray, List.getElem_cons_succ, List.getElem_cons_zero]
                go_wp2_with fail
                refine hK.out _ _ (.inr (fun _ => ⟨(HXq.out.grew gX).cell 0, (HXq.out.grew gX).cell 1⟩)) ?_
                clear hK
                have hxn := (Blk.new wa 26 #[.int .i64 l.id, .int .i64 l.unit] rfl).alloc (.cells #[] 26)
                refine wpAnyR_n1 (i := 0) rfl (by kernel_rfl) ?_
                intro K' hK
                rw [if_pos (by rfl)]
                simp only [List.getElem_toArray, List.getElem_cons_succ, List.getElem_cons_zero]
                go_wp2_with fail
                have ho1 : OwnL ((wa.alloc (.cells #[.int .i64 l.id, .int .i64 l.unit] 26)).alloc (.cells #[] 26)) wa.heap.size 26 2 (.slice (some ⟨wa.heap.size + 1, 0, none⟩) 0 0) [] := OwnL.empty _ _ _ _ (by simp) (by simp)
                refine hK.out _ _ (.inr (fun _ => ⟨(HXq.out.grew gXE).cell 0, (HXq.out.grew gXE).cell 1⟩)) ?_
                clear hK
                refine wpAnyR_n1 (i := 4) rfl (by kernel_rfl) ?_
                intro K' hK
                rw [if_pos (by rfl)]
                simp only [List.getElem_toArray, List.getElem_cons_succ, List.getElem_cons_zero]
                refine wp_pushAll (.tmp 49) (.tmp 52) 36 rfl wa.heap.size 26 2 16 _ Tryz.underlying36 info_ref rfl (by decide) _ [] ((N.take q).map refC) rfl ho1 _ q _ rfl (by rw [List.length_map, List.length_take]; omega) refC_row (by have h9 := ((HOq.out.grew gXE).listA).take q; rwa [← List.map_take] at h9) refC_one (by simp; omega) (by simp; omega) gXE.size ?_
                intro v1 w1 hown1 hgr1 hat1
                rw [List.nil_append] at hown1
                have g1 : Grew wa w1 := Grew.own gXE hgr1 ho1.row_ge (Nat.le_refl _)
                have hxn1 := hxn.own hgr1 (own_ne _ _ (by omega))
                refine hK.out _ _ (.inr (fun _ => ⟨(HXq.out.grew g1).cell 0, (HXq.out.grew g1).cell 1⟩)) ?_
                clear hK
                have hownc := hown1
                refine wpAnyR_n1 (i := 7) rfl (by kernel_rfl) ?_
                intro K' hK
                rw [if_pos (by rfl)]
                simp only [List.getElem_toArray, List.getElem_cons_succ, List.getElem_cons_zero]
                refine wp_push (.tmp 53) (.tmp 55) 36 rfl wa.heap.size 26 2 16 _ Tryz.underlying36 info_ref rfl (by decide) _ _ ((N.take q).map refC) (refC (l.id, l.unit)) rfl rfl hownc _ rfl hxn1 rfl (by rw [List.length_map, List.length_take]; omega) (by rw [List.length_map, List.length_take]; omega) g1.size q (by rw [List.length_map, List.length_take]; omega) ?_
                intro g2 cap2 w2 hown2 hgr2 hat2 hlt2
                have gg2 : Grew wa w2 := Grew.own g1 hgr2 hownc.row_ge (Nat.le_refl _)
                refine hK.out _ _ (.inr (fun _ => ⟨(HXq.out.grew gg2).cell 0, (HXq.out.grew gg2).cell 1⟩)) ?_
                clear hK
                refine wpAnyR_n1 (i := 11) rfl (by kernel_rfl) ?_
                intro K' hK
                rw [if_pos (by rfl)]
                simp only [List.getElem_toArray, List.getElem_cons_succ, List.getElem_cons_zero]
                refine wp_pushAll (.tmp 56) (.tmp 59) 36 rfl wa.heap.size 26 2 16 _ Tryz.underlying36 info_ref rfl (by decide) _ _ ((N.drop q).map refC) rfl hown2 _ 0 _ rfl (by rw [List.length_map, List.length_drop]; omega) refC_row (by rw [List.drop_of_length_le (by omega)]; exact ListAt.none _) refC_one (by rw [List.length_append, List.length_map, List.length_take]; simp; omega) (by rw [List.length_append, List.length_map, List.length_take]; simp; omega) gg2.size ?_
                intro v3 w5 hown3 hgr3 hat3
                have gg3 : Grew wa w5 := Grew.own gg2 hgr3 hown2.row_ge (Nat.le_refl _)
                refine hK.out _ _ (.inr (fun _ => ⟨(HXq.out.grew gg3).cell 0, (HXq.out.grew gg3).cell 1⟩)) ?_
                clear hK
                refine wpAnyR_takeQ (i := 12) (v := ?_) (some 3) rfl rfl (by kernel_rfl) (by kernel_rfl) (by kernel_rfl) (by kernel_rfl) (fun _ _ _ h => h) (Or.inl ⟨by rfl, ?_⟩) ?_
                rotate_left
                focus (intro wS hSw; (try dsimp only at hSw); go_simp; (try with_reducible rfl); (try (first | (rw [if_pos (by omega)]; (try go_simp); (try with_reducible rfl)) | (rw [if_neg (by omega)]; (try go_simp); (try with_reducible rfl)))))
                try simp only [Act.put, List.setIfInBounds_toArray, List.set_cons_zero, List.set_cons_succ]
                refine wpAnyR_done (by kernel_rfl) ?_ _
                have hrows : (N.take q).map refC ++ [refC (l.id, l.unit)] ++ (N.drop q).map refC = (insP N (l.id, l.unit)).map refC := by
                  rw [HINS.out, List.map_append, List.map_append, List.append_assoc]; rfl
                rw [hrows] at hown3
                obtain ⟨g4, cap4, hv4⟩ : ∃ g4 cap4, v3 = .slice (some ⟨g4, 0, none⟩) (insP N (l.id, l.unit)).length cap4 := by
                  rcases hown3.form with ⟨_, h0⟩ | ⟨g4, cap4, h1, _⟩
                  · have := congrArg List.length h0
                    rw [List.length_map, (insP_perm _ _).length_eq] at this
                    simp at this
                  · rw [List.length_map] at h1; exact ⟨g4, cap4, h1⟩
                subst hv4
                have HO5 := Lib.hid (hown3.lower2 (show w.heap.size ≤ wa.heap.size from HGa.out.size))
                have HB5 := Lib.hid (HBa.out.grew gg3)
                have HG5 := Lib.hid (HGa.out.trans gg3)
                clear hown3 hrows hgr3 hat3 hown2 hgr2 hat2 hlt2 hownc gg2 gg3 hS
                go_wp2_with fail
                go_roundg (T.labels.length - (k + 1))
                case measure => rw [HGK.out]; omega
                case rel => exact ⟨k + 1, by omega, by omega, by go_num, ⟨g4, cap4, by rw [HF.out], by rw [HF.out]; exact HO5.out⟩, HB5.out, HG5.out⟩
            · have hcq2 : q < cap := by omega
              go_wp2_with fail
              refine wp_region_R [] (fun w' : World => w'.cell? ⟨w3.heap.size, 0, none⟩ = some (.int .i64 l.id) ∧ w'.cell? ⟨w3.heap.size, 1, none⟩ = some (.int .i64 l.unit)) (by kernel_rfl) ?_
              obtain ⟨wa, hwa⟩ : ∃ wa, wa = wz.drew := ⟨_, rfl⟩
              rw [← hwa]
              have HXq := Lib.hid (show Blk wa w3.heap.size 26 #[.int .i64 l.id, .int .i64 l.unit] from by rw [hwa]; exact hxq.drew)
              have HOq := Lib.hid (show OwnL wa w.heap.size 26 2 (.slice (some ⟨g, 0, none⟩) N.length cap) (N.map refC) from by rw [hwa]; exact hoq.drew)
              have HBa := Lib.hid (show Blk wa w.heap.size 24 #[.string T.name, .int .i64 T.tracks, .slice (some ⟨b, off, none⟩) T.labels.length c] from by rw [hwa]; exact hbq.drew)
              have HGa := Lib.hid (show Grew w wa from by rw [hwa]; exact hgq.drew)
              clear hwa hxq hoq hbq hgq
              have hS : (fun w' : World => w'.cell? ⟨w3.heap.size, 0, none⟩ = some (.int .i64 l.id) ∧ w'.cell? ⟨w3.heap.size, 1, none⟩ = some (.int .i64 l.unit)) wa := ⟨HXq.out.cell 0, HXq.out.cell 1⟩
              have gE := (Grew.refl wa).alloc (.cells #[] 26)
              have gX := (Grew.refl wa).alloc (.cells #[.int .i64 l.id, .int .i64 l.unit] 26)
              have gEX := gE.alloc (.cells #[.int .i64 l.id, .int .i64 l.unit] 26)
              have gXE := gX.alloc (.cells #[] 26)
              refine wpAnyR_takeQ (i := 1) (v := ?_) (some 50) rfl rfl (by kernel_rfl) (by kernel_rfl) (by kernel_rfl) (by kernel_rfl) (fun _ _ _ h => h) (Or.inl ⟨by rfl, ?_⟩) ?_
              rotate_left
              focus (intro wS hSw; (try dsimp only at hSw); go_simp; (try with_reducible rfl); (try (first | (rw [if_pos (by omega)]; (try go_simp); (try with_reducible rfl)) | (rw [if_neg (by omega)]; (try go_simp); (try with_reducible rfl)))))
              try simp only [Act.put, List.setIfInBounds_toArray, List.set_cons_zero, List.set_cons_succ]
              refine wpAnyR_takeQ (i := 2) (v := ?_) (some 51) rfl rfl (by kernel_rfl) (by kernel_rfl) (by kernel_rfl) (by kernel_rfl) (fun _ _ _ h => h) (Or.inl ⟨by rfl, ?_⟩) ?_
              rotate_left
              focus (intro wS hSw; (try dsimp only at hSw); go_simp; (try with_reducible rfl); (try (first | (rw [if_pos (by omega)]; (try go_simp); (try with_reducible rfl)) | (rw [if_neg (by omega)]; (try go_simp); (try with_reducible rfl)))))
              try simp only [Act.put, List.setIfInBounds_toArray, List.set_cons_zero, List.set_cons_succ]
              refine wpAnyR_takeQ (i := 3) (v := ?_) (some 52) rfl rfl (by kernel_rfl) (by kernel_rfl) (by kernel_rfl) (by kernel_rfl) (fun _ _ _ h => h) (Or.inl ⟨by rfl, ?_⟩) ?_
              rotate_left
              focus (intro wS hSw; (try dsimp only at hSw); go_simp; (try with_reducible rfl); (try (first | (rw [if_pos (by omega)]; (try go_simp); (try with_reducible rfl)) | (rw [if_neg (by omega)]; (try go_simp); (try with_reducible rfl)))))
              try simp only [Act.put, List.setIfInBounds_toArray, List.set_cons_zero, List.set_cons_succ]
              refine wpAnyR_take (i := 5) (v := ?_) [6, 7, 11, 12] (some 54) rfl rfl (by kernel_rfl) (by kernel_rfl) (by kernel_rfl) (by kernel_rfl) (by kernel_rfl) (by kernel_rfl) (by kernel_rfl) (fun _ _ _ h => h) (Or.inl ⟨by rfl, ?_⟩) hS ?_
              rotate_left
              focus (intro wS hSw; (try dsimp only at hSw); go_simp; (try with_reducible rfl); (try (first | (rw [if_pos (by omega)]; (try go_simp); (try with_reducible rfl)) | (rw [if_neg (by omega)]; (try go_simp); (try with_reducible rfl)))))
              try simp only [Act.put, List.setIfInBounds_toArray, List.set_cons_zero, List.set_cons_succ]
              refine wpAnyR_takeQ (i := 8) (v := ?_) (some 57) rfl rfl (by kernel_rfl) (by kernel_rfl) (by kernel_rfl) (by kernel_rfl) (fun _ _ _ h => h) (Or.inl ⟨by rfl, ?_⟩) ?_
              rotate_left
              focus (intro wS hSw; (try dsimp only at hSw); go_simp; (try with_reducible rfl); (try (first | (rw [if_pos (by omega)]; (try go_simp); (try with_reducible rfl)) | (rw [if_neg (by omega)]; (try go_simp); (try with_reducible rfl)))))
              try simp only [Act.put, List.setIfInBounds_toArray, List.set_cons_zero, List.set_cons_succ]
              refine wpAnyR_takeQ (i := 9) (v := ?_) (some 58) rfl rfl (by kernel_rfl) (by kernel_rfl) (by kernel_rfl) (by kernel_rfl) (fun _ _ _ h => h) (Or.inl ⟨by rfl, ?_⟩) ?_
              rotate_left
              focus (intro wS hSw; (try dsimp only at hSw); go_simp; (try with_reducible rfl); (try (first | (rw [if_pos (by omega)]; (try go_simp); (try with_reducible rfl)) | (rw [if_neg (by omega)]; (try go_simp); (try with_reducible rfl)))))
              try simp only [Act.put, List.setIfInBounds_toArray, List.set_cons_zero, List.set_cons_succ]
              refine wpAnyR_takeQ (i := 10) (v := ?_) (some 59) rfl rfl (by kernel_rfl) (by kernel_rfl) (by kernel_rfl) (by kernel_rfl) (fun _ _ _ h => h) (Or.inl ⟨by rfl, ?_⟩) ?_
              rotate_left
              focus (intro wS hSw; (try dsimp only at hSw); go_simp; (try with_reducible rfl); (try (first | (rw [if_pos (by omega)]; (try go_simp); (try with_reducible rfl)) | (rw [if_neg (by omega)]; (try go_simp); (try with_reducible rfl)))))
              try simp only [Act.put, List.setIfInBounds_toArray, List.set_cons_zero, List.set_cons_succ]
              refine wpAnyR_n2 (i := 0) (j := 6) rfl rfl (by kernel_rfl) ?s2a ?s2b
              case' s2a =>
                intro K' hK
                rw [if_pos (by rfl)]
                simp only [List.getElem_toArray, List.getElem_cons_succ, List.getElem_cons_zero]
                go_wp2_with fail
                refine hK.out _ _ (.inr (fun _ => ⟨(HXq.out.grew gE).cell 0, (HXq.out.grew gE).cell 1⟩)) ?_
                clear hK
                have ho0 : OwnL (wa.alloc (.cells #[] 26)) wa.heap.size 26 2 (.slice (some ⟨wa.heap.size, 0, none⟩) 0 0) [] := OwnL.empty _ _ _ _ (Nat.le_refl _) rfl
                refine wpAnyR_n2 (i := 4) (j := 6) rfl rfl (by kernel_rfl) ?s2xa ?s2xb
                case' s2xa =>
                  intro K' hK
                  rw [if_pos (by rfl)]
                  simp only [List.getElem_toArray, List.getElem_cons_succ, List.getElem_cons_zero]
                  refine wp_pushAll (.tmp 49) (.tmp 52) 36 rfl wa.heap.size 26 2 16 _ Tryz.underlying36 info_ref rfl (by decide) _ [] ((N.take q).map refC) rfl ho0 _ q _ rfl (by rw [List.length_map, List.length_take]; omega) refC_row (by have h9 := ((HOq.out.grew gE).listA).take q; rwa [← List.map_take] at h9) refC_one (by simp; omega) (by simp; omega) gE.size ?_
                  intro v1 w1 hown1 hgr1 hat1
                  rw [List.nil_append] at hown1
                  have g1 : Grew wa w1 := Grew.own gE hgr1 ho0.row_ge (Nat.le_refl _)
                  refine hK.out _ _ (.inr (fun _ => ⟨(HXq.out.grew g1).cell 0, (HXq.out.grew g1).cell 1⟩)) ?_
                  clear hK
                  refine wpAnyR_n1 (i := 6) rfl (by kernel_rfl) ?_
                  intro K' hK
                  rw [if_pos (by rfl)]
                  simp only [List.getElem_toArray, List.getElem_cons_succ, List.getElem_cons_zero]
                  go_wp2_with fail
                  have gc := g1.alloc (.cells #[.int .i64 l.id, .int .i64 l.unit] 26)
                  have hownc := hown1.alloc (.cells #[.int .i64 l.id, .int .i64 l.unit] 26)
                  have hxn := Blk.new w1 26 #[.int .i64 l.id, .int .i64 l.unit] rfl
                  refine hK.out _ _ (.inr (fun _ => ⟨(HXq.out.grew gc).cell 0, (HXq.out.grew gc).cell 1⟩)) ?_
                  clear hK hown1 hgr1 hat1
                  refine wpAnyR_n1 (i := 7) rfl (by kernel_rfl) ?_
                  intro K' hK
                  rw [if_pos (by rfl)]
                  simp only [List.getElem_toArray, List.getElem_cons_succ, List.getElem_cons_zero]
                  refine wp_push (.tmp 53) (.tmp 55) 36 rfl wa.heap.size 26 2 16 _ Tryz.underlying36 info_ref rfl (by decide) _ _ ((N.take q).map refC) (refC (l.id, l.unit)) rfl rfl hownc _ rfl hxn rfl (by rw [List.length_map, List.length_take]; omega) (by rw [List.length_map, List.length_take]; omega) gc.size q (by rw [List.length_map, List.length_take]; omega) ?_
                  intro g2 cap2 w2 hown2 hgr2 hat2 hlt2
                  have gg2 : Grew wa w2 := Grew.own gc hgr2 hownc.row_ge (Nat.le_refl _)
                  refine hK.out _ _ (.inr (fun _ => ⟨(HXq.out.grew gg2).cell 0, (HXq.out.grew gg2).cell 1⟩)) ?_
                  clear hK
                  refine wpAnyR_n1 (i := 11) rfl (by kernel_rfl) ?_
                  intro K' hK
                  rw [if_pos (by rfl)]
                  simp only [List.getElem_toArray, List.getElem_cons_succ, List.getElem_cons_zero]
                  refine wp_pushAll (.tmp 56) (.tmp 59) 36 rfl wa.heap.size 26 2 16 _ Tryz.underlying36 info_ref rfl (by decide) _ _ ((N.drop q).map refC) rfl hown2 _ (N.length - q) _ (by first | rfl | (simp [Act.eval]; done)) (by rw [List.length_map, List.length_drop]) refC_row (by have h9 := ((HOq.out.grew gg2).listA).drop q (off' := q * 2) (by omega); rwa [← List.map_drop] at h9) refC_one (by rw [List.length_append, List.length_map, List.length_take]; simp; omega) (by rw [List.length_append, List.length_map, List.length_take]; simp; omega) gg2.size ?_
                  intro v3 w5 hown3 hgr3 hat3
                  have gg3 : Grew wa w5 := Grew.own gg2 hgr3 hown2.row_ge (Nat.le_refl _)
                  refine hK.out _ _ (.inr (fun _ => ⟨(HXq.out.grew gg3).cell 0, (HXq.out.grew gg3).cell 1⟩)) ?_
                  clear hK
                  refine wpAnyR_takeQ (i := 12) (v := ?_) (some 3) rfl rfl (by kernel_rfl) (by kernel_rfl) (by kernel_rfl) (by kernel_rfl) (fun _ _ _ h => h) (Or.inl ⟨by rfl, ?_⟩) ?_
                  rotate_left
                  focus (intro wS hSw; (try dsimp only at hSw); go_simp; (try with_reducible rfl); (try (first | (rw [if_pos (by omega)]; (try go_simp); (try with_reducible rfl)) | (rw [if_neg (by omega)]; (try go_simp); (try with_reducible rfl)))))
                  try simp only [Act.put, List.setIfInBounds_toArray, List.set_cons_zero, List.set_cons_succ]
                  refine wpAnyR_done (by kernel_rfl) ?_ _
                  have hrows : (N.take q).map refC ++ [refC (l.id, l.unit)] ++ (N.drop q).map refC = (insP N (l.id, l.unit)).map refC := by
                    rw [HINS.out, List.map_append, List.map_append, List.append_assoc]; rfl
                  rw [hrows] at hown3
                  obtain ⟨g4, cap4, hv4⟩ : ∃ g4 cap4, v3 = .slice (some ⟨g4, 0, none⟩) (insP N (l.id, l.unit)).length cap4 := by
                    rcases hown3.form with ⟨_, h0⟩ | ⟨g4, cap4, h1, _⟩
                    · have := congrArg List.length h0
                      rw [List.length_map, (insP_perm _ _).length_eq] at this
                      simp at this
                    · rw [List.length_map] at h1; exact ⟨g4, cap4, h1⟩
                  subst hv4
                  have HO5 := Lib.hid (hown3.lower2 (show w.heap.size ≤ wa.heap.size from HGa.out.size))
                  have HB5 := Lib.hid (HBa.out.grew gg3)
                  have HG5 := Lib.hid (HGa.out.trans gg3)
                  clear hown3 hrows hgr3 hat3 hown2 hgr2 hat2 hlt2 hownc gg2 gg3 hS
                  go_wp2_with fail
                  go_roundg (T.labels.length - (k + 1))
                  case measure => rw [HGK.out]; omega
                  case rel => exact ⟨k + 1, by omega, by omega, by go_num, ⟨g4, cap4, by rw [HF.out], by rw [HF.out]; exact HO5.out⟩, HB5.out, HG5.out⟩
                case' s2xb =>
                  intro K' hK
                  rw [if_pos (by rfl)]
                  simp only [List.getElem_toArray, List.getElem_cons_succ, List.getElem_cons_zero]
                  go_wp2_with fail
                  refine hK.out _ _ (.inr (fun _ => ⟨(HXq.out.grew gEX).cell 0, (HXq.out.grew gEX).cell 1⟩)) ?_
                  clear hK
                  have ho1 := ho0.alloc (.cells #[.int .i64 l.id, .int .i64 l.unit] 26)
                  have hxn := Blk.new (wa.alloc (.cells #[] 26)) 26 #[.int .i64 l.id, .int .i64 l.unit] (n := wa.heap.size + 1) (by simp)
                  refine wpAnyR_n1 (i := 4) rfl (by kernel_rfl) ?_
                  intro K' hK
                  rw [if_pos (by rfl)]
                  simp only [List.getElem_toArray, List.getElem_cons_succ, List.getElem_cons_zero]
                  refine wp_pushAll (.tmp 49) (.tmp 52) 36 rfl wa.heap.size 26 2 16 _ Tryz.underlying36 info_ref rfl (by decide) _ [] ((N.take q).map refC) rfl ho1 _ q _ rfl (by rw [List.length_map, List.length_take]; omega) refC_row (by have h9 := ((HOq.out.grew gEX).listA).take q; rwa [← List.map_take] at h9) refC_one (by simp; omega) (by simp; omega) gEX.size ?_
                  intro v1 w1 hown1 hgr1 hat1
                  rw [List.nil_append] at hown1
                  have g1 : Grew wa w1 := Grew.own gEX hgr1 ho1.row_ge (Nat.le_refl _)
                  have hxn1 := hxn.own hgr1 (own_ne _ _ (by omega))
                  refine hK.out _ _ (.inr (fun _ => ⟨(HXq.out.grew g1).cell 0, (HXq.out.grew g1).cell 1⟩)) ?_
                  clear hK
                  have hownc := hown1
                  refine wpAnyR_n1 (i := 7) rfl (by kernel_rfl) ?_
                  intro K' hK
                  rw [if_pos (by rfl)]
                  simp only [List.getElem_toArray, List.getElem_cons_succ, List.getElem_cons_zero]
                  refine wp_push (.tmp 53) (.tmp 55) 36 rfl wa.heap.size 26 2 16 _ Tryz.underlying36 info_ref rfl (by decide) _ _ ((N.take q).map refC) (refC (l.id, l.unit)) rfl rfl hownc _ rfl hxn1 rfl (by rw [List.length_map, List.length_take]; omega) (by rw [List.length_map, List.length_take]; omega) g1.size q (by rw [List.length_map, List.length_take]; omega) ?_
                  intro g2 cap2 w2 hown2 hgr2 hat2 hlt2
                  have gg2 : Grew wa w2 := Grew.own g1 hgr2 hownc.row_ge (Nat.le_refl _)
                  refine hK.out _ _ (.inr (fun _ => ⟨(HXq.out.grew gg2).cell 0, (HXq.out.grew gg2).cell 1⟩)) ?_
                  clear hK
                  refine wpAnyR_n1 (i := 11) rfl (by kernel_rfl) ?_
                  intro K' hK
                  rw [if_pos (by rfl)]
                  simp only [List.getElem_toArray, List.getElem_cons_succ, List.getElem_cons_zero]
                  refine wp_pushAll (.tmp 56) (.tmp 59) 36 rfl wa.heap.size 26 2 16 _ Tryz.underlying36 info_ref rfl (by decide) _ _ ((N.drop q).map refC) rfl hown2 _ (N.length - q) _ (by first | rfl | (simp [Act.eval]; done)) (by rw [List.length_map, List.length_drop]) refC_row (by have h9 := ((HOq.out.grew gg2).listA).drop q (off' := q * 2) (by omega); rwa [← List.map_drop] at h9) refC_one (by rw [List.length_append, List.length_map, List.length_take]; simp; omega) (by rw [List.length_append, List.length_map, List.length_take]; simp; omega) gg2.size ?_
                  intro v3 w5 hown3 hgr3 hat3
                  have gg3 : Grew wa w5 := Grew.own gg2 hgr3 hown2.row_ge (Nat.le_refl _)
                  refine hK.out _ _ (.inr (fun _ => ⟨(HXq.out.grew gg3).cell 0, (HXq.out.grew gg3).cell 1⟩)) ?_
                  clear hK
                  refine wpAnyR_takeQ (i := 12) (v := ?_) (some 3) rfl rfl (by kernel_rfl) (by kernel_rfl) (by kernel_rfl) (by kernel_rfl) (fun _ _ _ h => h) (Or.inl ⟨by rfl, ?_⟩) ?_
                  rotate_left
                  focus (intro wS hSw; (try dsimp only at hSw); go_simp; (try with_reducible rfl); (try (first | (rw [if_pos (by omega)]; (try go_simp); (try with_reducible rfl)) | (rw [if_neg (by omega)]; (try go_simp); (try with_reducible rfl)))))
                  try simp only [Act.put, List.setIfInBounds_toArray, List.set_cons_zero, List.set_cons_succ]
                  refine wpAnyR_done (by kernel_rfl) ?_ _
                  have hrows : (N.take q).map refC ++ [refC (l.id, l.unit)] ++ (N.drop q).map refC = (insP N (l.id, l.unit)).map refC := by
                    rw [HINS.out, List.map_append, List.map_append, List.append_assoc]; rfl
                  rw [hrows] at hown3
                  obtain ⟨g4, cap4, hv4⟩ : ∃ g4 cap4, v3 = .slice (some ⟨g4, 0, none⟩) (insP N (l.id, l.unit)).length cap4 := by
                    rcases hown3.form with ⟨_, h0⟩ | ⟨g4, cap4, h1, _⟩
                    · have := congrArg List.length h0
                      rw [List.length_map, (insP_perm _ _).length_eq] at this
                      simp at this
                    · rw [List.length_map] at h1; exact ⟨g4, cap4, h1⟩
                  subst hv4
                  have HO5 := Lib.hid (hown3.lower2 (show w.heap.size ≤ wa.heap.size from HGa.out.size))
                  have HB5 := Lib.hid (HBa.out.grew gg3)
                  have HG5 := Lib.hid (HGa.out.trans gg3)
                  clear hown3 hrows hgr3 hat3 hown2 hgr2 hat2 hlt2 hownc gg2 gg3 hS
                  go_wp2_with fail
                  go_roundg (T.labels.length - (k + 1))
                  case measure => rw [HGK.out]; omega
                  case rel => exact ⟨k + 1, by omega, by omega, by go_num, ⟨g4, cap4, by rw [HF.out], by rw [HF.out]; exact HO5.out⟩, HB5.out, HG5.out⟩
              case' s2b =>
                intro K' hK
                rw [if_pos (by rfl)]
                simp only [List.getElem_toArray, List.getElem_cons_succ, List.getElem_cons_zero]
                go_wp2_with fail
                refine hK.out _ _ (.inr (fun _ => ⟨(HXq.out.grew gX).cell 0, (HXq.out.grew gX).cell 1⟩)) ?_
                clear hK
                have hxn := (Blk.new wa 26 #[.int .i64 l.id, .int .i64 l.unit] rfl).alloc (.cells #[] 26)
                refine wpAnyR_n1 (i := 0) rfl (by kernel_rfl) ?_
                intro K' hK
                rw [if_pos (by rfl)]
                simp only [List.getElem_toArray, List.getElem_cons_succ, List.getElem_cons_zero]
                go_wp2_with fail
                have ho1 : OwnL ((wa.alloc (.cells #[.int .i64 l.id, .int .i64 l.unit] 26)).alloc (.cells #[] 26)) wa.heap.size 26 2 (.slice (some ⟨wa.heap.size + 1, 0, none⟩) 0 0) [] := OwnL.empty _ _ _ _ (by simp) (by simp)
                refine hK.out _ _ (.inr (fun _ => ⟨(HXq.out.grew gXE).cell 0, (HXq.out.grew gXE).cell 1⟩)) ?_
                clear hK
                refine wpAnyR_n1 (i := 4) rfl (by kernel_rfl) ?_
                intro K' hK
                rw [if_pos (by rfl)]
                simp only [List.getElem_toArray, List.getElem_cons_succ, List.getElem_cons_zero]
                refine wp_pushAll (.tmp 49) (.tmp 52) 36 rfl wa.heap.size 26 2 16 _ Tryz.underlying36 info_ref rfl (by decide) _ [] ((N.take q).map refC) rfl ho1 _ q _ rfl (by rw [List.length_map, List.length_take]; omega) refC_row (by have h9 := ((HOq.out.grew gXE).listA).take q; rwa [← List.map_take] at h9) refC_one (by simp; omega) (by simp; omega) gXE.size ?_
                intro v1 w1 hown1 hgr1 hat1
                rw [List.nil_append] at hown1
                have g1 : Grew wa w1 := Grew.own gXE hgr1 ho1.row_ge (Nat.le_refl _)
                have hxn1 := hxn.own hgr1 (own_ne _ _ (by omega))
                refine hK.out _ _ (.inr (fun _ => ⟨(HXq.out.grew g1).cell 0, (HXq.out.grew g1).cell 1⟩)) ?_
                clear hK
                have hownc := hown1
                refine wpAnyR_n1 (i := 7) rfl (by kernel_rfl) ?_
                intro K' hK
                rw [if_pos (by rfl)]
                simp only [List.getElem_toArray, List.getElem_cons_succ, List.getElem_cons_zero]
                refine wp_push (.tmp 53) (.tmp 55) 36 rfl wa.heap.size 26 2 16 _ Tryz.underlying36 info_ref rfl (by decide) _ _ ((N.take q).map refC) (refC (l.id, l.unit)) rfl rfl hownc _ rfl hxn1 rfl (by rw [List.length_map, List.length_take]; omega) (by rw [List.length_map, List.length_take]; omega) g1.size q (by rw [List.length_map, List.length_take]; omega) ?_
                intro g2 cap2 w2 hown2 hgr2 hat2 hlt2
                have gg2 : Grew wa w2 := Grew.own g1 hgr2 hownc.row_ge (Nat.le_refl _)
                refine hK.out _ _ (.inr (fun _ => ⟨(HXq.out.grew gg2).cell 0, (HXq.out.grew gg2).cell 1⟩)) ?_
                clear hK
                refine wpAnyR_n1 (i := 11) rfl (by kernel_rfl) ?_
                intro K' hK
                rw [if_pos (by rfl)]
                simp only [List.getElem_toArray, List.getElem_cons_succ, List.getElem_cons_zero]
                refine wp_pushAll (.tmp 56) (.tmp 59) 36 rfl wa.heap.size 26 2 16 _ Tryz.underlying36 info_ref rfl (by decide) _ _ ((N.drop q).map refC) rfl hown2 _ (N.length - q) _ (by first | rfl | (simp [Act.eval]; done)) (by rw [List.length_map, List.length_drop]) refC_row (by have h9 := ((HOq.out.grew gg2).listA).drop q (off' := q * 2) (by omega); rwa [← List.map_drop] at h9) refC_one (by rw [List.length_append, List.length_map, List.length_take]; simp; omega) (by rw [List.length_append, List.length_map, List.length_take]; simp; omega) gg2.size ?_
                intro v3 w5 hown3 hgr3 hat3
                have gg3 : Grew wa w5 := Grew.own gg2 hgr3 hown2.row_ge (Nat.le_refl _)
                refine hK.out _ _ (.inr (fun _ => ⟨(HXq.out.grew gg3).cell 0, (HXq.out.grew gg3).cell 1⟩)) ?_
                clear hK
                refine wpAnyR_takeQ (i := 12) (v := ?_) (some 3) rfl rfl (by kernel_rfl) (by kernel_rfl) (by kernel_rfl) (by kernel_rfl) (fun _ _ _ h => h) (Or.inl ⟨by rfl, ?_⟩) ?_
                rotate_left
                focus (intro wS hSw; (try dsimp only at hSw); go_simp; (try with_reducible rfl); (try (first | (rw [if_pos (by omega)]; (try go_simp); (try with_reducible rfl)) | (rw [if_neg (by omega)]; (try go_simp); (try with_reducible rfl)))))
                try simp only [Act.put, List.setIfInBounds_toArray, List.set_cons_zero, List.set_cons_succ]
                refine wpAnyR_done (by kernel_rfl) ?_ _
                have hrows : (N.take q).map refC ++ [refC (l.id, l.unit)] ++ (N.drop q).map refC = (insP N (l.id, l.unit)).map refC := by
                  rw [HINS.out, List.map_append, List.map_append, List.append_assoc]; rfl
                rw [hrows] at hown3
                obtain ⟨g4, cap4, hv4⟩ : ∃ g4 cap4, v3 = .slice (some ⟨g4, 0, none⟩) (insP N (l.id, l.unit)).length cap4 := by
                  rcases hown3.form with ⟨_, h0⟩ | ⟨g4, cap4, h1, _⟩
                  · have := congrArg List.length h0
                    rw [List.length_map, (insP_perm _ _).length_eq] at this
                    simp at this
                  · rw [List.length_map] at h1; exact ⟨g4, cap4, h1⟩
                subst hv4
                have HO5 := Lib.hid (hown3.lower2 (show w.heap.size ≤ wa.heap.size from HGa.out.size))
                have HB5 := Lib.hid (HBa.out.grew gg3)
                have HG5 := Lib.hid (HGa.out.trans gg3)
                clear hown3 hrows hgr3 hat3 hown2 hgr2 hat2 hlt2 hownc gg2 gg3 hS
                go_wp2_with fail
                go_roundg (T.labels.length - (k + 1))
                case measure => rw [HGK.out]; omega
                case rel => exact ⟨k + 1, by omega, by omega, by go_num, ⟨g4, cap4, by rw [HF.out], by rw [HF.out]; exact HO5.out⟩, HB5.out, HG5.out⟩
    · have hkn : k = T.labels.length := by omega
      subst hkn
      rw [List.take_length] at hown hNl ⊢
      have HLE := Lib.hid (show sortP (rawR T.labels) = kf from HKF.out)
      rw [HLE.out] at hown ⊢
      have HLA := Lib.hid (hown.listA)
      clear hb hg hown
      go_wp2_with fail
      go_ret
      refine ⟨_, _, rfl, ?_, HG.out⟩
      exact HLA.out
end
end Go.Proofs.YtnlaogneceanoaaGreat
