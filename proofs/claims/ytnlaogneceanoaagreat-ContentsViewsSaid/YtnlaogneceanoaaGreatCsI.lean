/- Chapter 8: the references of a table: their comparison, the sort by it. Chapter 8: Refs. -/
import Derived.Shelf.SlSortCmp.NoneTotal
import Derived.Test.YtnlaogneceanoaaGreatCsB
import Derived.Test.YtnlaogneceanoaaGreatCsF
import Derived.Test.YtnlaogneceanoaaGreatCsH
namespace Go.Proofs.YtnlaogneceanoaaGreat
set_option linter.unusedVariables false
set_option linter.unusedSimpArgs false
set_option linter.unusedSectionVars false
open Go.RowKit Go.Shelf Go.Lib
attribute [local go_sem ↓] Go.wp_at_zero Go.wp_at_succ
def refC (a : Int × Int) : List Value := [.int .i64 a.1, .int .i64 a.2]
def ltP (a b : Int × Int) : Prop := a.1 < b.1 ∨ a.1 = b.1 ∧ a.2 < b.2
instance (a b : Int × Int) : Decidable (ltP a b) := by unfold ltP; exact inferInstance
def cmpC (a b : Int) : Int := if a < b then -1 else if b < a then 1 else 0
def cmpP (x y : Int × Int) : Int := if cmpC x.1 y.1 = 0 then cmpC x.2 y.2 else cmpC x.1 y.1
theorem lt_cmpP (x y : Int × Int) : Go.Proofs.ltOf cmpP x y = true ↔ ltP x y := by
  unfold Go.Proofs.ltOf cmpP cmpC ltP
  rw [decide_eq_true_eq]
  repeat' split
  all_goals omega
theorem swP : Go.Sort.SWO (Go.Proofs.ltOf cmpP) where
  irrefl x := by
    cases h : Go.Proofs.ltOf cmpP x x with
    | false => rfl
    | true => have := (lt_cmpP x x).1 h; unfold ltP at this; omega
  trans x y z h1 h2 := by
    rw [lt_cmpP] at h1 h2 ⊢
    unfold ltP at *
    omega
  ntrans x y z h1 h2 := by
    rw [← Bool.not_eq_true] at h1 h2 ⊢
    rw [lt_cmpP] at h1 h2 ⊢
    unfold ltP at *
    omega
/-- Where a reference is put among others. -/
def insP : List (Int × Int) → Int × Int → List (Int × Int)
  | [], x => [x]
  | y :: l, x => if ltP x y then x :: y :: l else y :: insP l x
def sortP (l : List (Int × Int)) : List (Int × Int) := l.foldl insP []
theorem insP_perm (x : Int × Int) : ∀ l, (insP l x).Perm (x :: l) := by
  intro l
  induction l with
  | nil => exact List.Perm.refl _
  | cons y l ih =>
    unfold insP
    split
    · exact List.Perm.refl _
    · exact (List.Perm.cons y ih).trans (List.Perm.swap x y l)
theorem foldl_perm : ∀ (l acc : List (Int × Int)), (l.foldl insP acc).Perm (acc ++ l) := by
  intro l
  induction l with
  | nil => intro acc; simp
  | cons x l ih =>
    intro acc
    refine (ih _).trans ?_
    refine ((insP_perm x acc).append_right l).trans ?_
    simpa using (List.perm_middle (a := x) (l₁ := acc) (l₂ := l)).symm
theorem sortP_perm (l : List (Int × Int)) : (sortP l).Perm l := by simpa [sortP] using foldl_perm l []
theorem insP_sorted (x : Int × Int) : ∀ l : List (Int × Int), l.Pairwise (fun a b => ¬ ltP b a) → (insP l x).Pairwise (fun a b => ¬ ltP b a) := by
  intro l
  induction l with
  | nil => intro _; exact List.pairwise_singleton _ _
  | cons y l ih =>
    intro h
    obtain ⟨h1, h2⟩ := List.pairwise_cons.1 h
    unfold insP
    split
    · rename_i hxy
      refine List.pairwise_cons.2 ⟨fun z hz => ?_, h⟩
      rcases List.mem_cons.1 hz with rfl | hz
      · unfold ltP at *; omega
      · have := h1 z hz
        unfold ltP at *; omega
    · rename_i hxy
      refine List.pairwise_cons.2 ⟨fun z hz => ?_, ih h2⟩
      rcases List.mem_cons.1 ((insP_perm x l).subset hz) with rfl | hz
      · exact hxy
      · exact h1 z hz
theorem sortP_sorted (l : List (Int × Int)) : (sortP l).Pairwise (fun a b => ¬ ltP b a) := by
  have key : ∀ (l acc : List (Int × Int)), acc.Pairwise (fun a b => ¬ ltP b a) → (l.foldl insP acc).Pairwise (fun a b => ¬ ltP b a) := by
    intro l
    induction l with
    | nil => intro acc h; exact h
    | cons x l ih => intro acc h; exact ih _ (insP_sorted x acc h)
  exact key l [] List.Pairwise.nil
theorem sortedP_one : ∀ (a b : List (Int × Int)), a.Perm b → a.Pairwise (fun a b => ¬ ltP b a) → b.Pairwise (fun a b => ¬ ltP b a) → a = b := by
  intro a
  induction a with
  | nil => intro b hp _ _; exact hp.nil_eq
  | cons x a ih =>
    intro b hp ha hb
    cases b with
    | nil => exact absurd hp.length_eq (by simp)
    | cons y b =>
      have hxy : x = y := by
        have h1 : x ∈ y :: b := hp.subset (List.mem_cons_self ..)
        have h2 : y ∈ x :: a := hp.symm.subset (List.mem_cons_self ..)
        rcases List.mem_cons.1 h1 with h1 | h1
        · exact h1
        · rcases List.mem_cons.1 h2 with h2 | h2
          · exact h2.symm
          · have e1 := (List.pairwise_cons.1 ha).1 y h2
            have e2 := (List.pairwise_cons.1 hb).1 x h1
            obtain ⟨x1, x2⟩ := x
            obtain ⟨y1, y2⟩ := y
            unfold ltP at e1 e2
            simp only at e1 e2
            exact Prod.ext (by simp only; omega) (by simp only; omega)
      subst hxy
      rw [ih b ((List.perm_cons x).1 hp) (List.pairwise_cons.1 ha).2 (List.pairwise_cons.1 hb).2]
theorem sortP_is (l d : List (Int × Int)) (hp : d.Perm l) (hs : ∀ i j (hi : i < d.length) (hj : j < d.length), i < j → ¬ ltP d[j] d[i]) : d = sortP l :=
  sortedP_one _ _ (hp.trans (sortP_perm l).symm) (List.pairwise_iff_getElem.2 hs) (sortP_sorted l)
theorem nan_any (a : Int) (w : World) : Calls Tryz.prog 112 #[.int .i64 a] w fun e w' => e = .returned (.bool false) ∧ w = w' := by
  go_enter Tryz.func112, Tryz.ntmps112
  go_wp2_with fail
  go_ret
  exact ⟨ret_bool (by simp), rfl⟩
set_option maxRecDepth 100000 in
theorem compare_any (a b : Int) (w : World) : Calls Tryz.prog 57 #[.int .i64 a, .int .i64 b] w fun e w' => e = .returned (.int .i64 (cmpC a b)) ∧ w = w' := by
  by_cases h1 : a < b
  · have HE := Lib.hid (show cmpC a b = -1 from if_pos h1)
    go_enter Tryz.func57, Tryz.ntmps57
    go_wp2_with fail
    refine (nan_any _ _).mono ?_
    rintro e w1 ⟨rfl, rfl⟩
    go_wp2_with fail
    refine (nan_any _ _).mono ?_
    rintro e w1 ⟨rfl, rfl⟩
    go_wp2_with fail
    go_ret
    exact ⟨ret_int (by rw [HE.out]), rfl⟩
  · by_cases h2 : b < a
    · have HE := Lib.hid (show cmpC a b = 1 from by unfold cmpC; rw [if_neg h1, if_pos h2])
      go_enter Tryz.func57, Tryz.ntmps57
      go_wp2_with fail
      refine (nan_any _ _).mono ?_
      rintro e w1 ⟨rfl, rfl⟩
      go_wp2_with fail
      refine (nan_any _ _).mono ?_
      rintro e w1 ⟨rfl, rfl⟩
      go_wp2_with fail
      go_ret
      exact ⟨ret_int (by rw [HE.out]), rfl⟩
    · have HE := Lib.hid (show cmpC a b = 0 from by unfold cmpC; rw [if_neg h1, if_neg h2])
      go_enter Tryz.func57, Tryz.ntmps57
      go_wp2_with fail
      refine (nan_any _ _).mono ?_
      rintro e w1 ⟨rfl, rfl⟩
      go_wp2_with fail
      refine (nan_any _ _).mono ?_
      rintro e w1 ⟨rfl, rfl⟩
      go_wp2_with fail
      go_ret
      exact ⟨ret_int (by rw [HE.out]), rfl⟩
set_option maxRecDepth 100000 in
set_option maxHeartbeats 1000000 in
theorem or_any (a b r : Int) (hr : (if a = 0 then b else a) = r) (g : Nat) (w : World) (hb : Blk w g 3 #[.int .i64 a, .int .i64 b]) : Calls Tryz.prog 56 #[.slice (some ⟨g, 0, none⟩) 2 2] w fun e w' => e = .returned (.int .i64 r) ∧ w = w' := by
  have HR := Lib.hid hr
  clear hr
  have x0 := hb.cell 0
  have x1 := hb.cell 1
  have hl := hb.lt
  go_enter Tryz.func56, Tryz.ntmps56
  go_wp2_with fail
  go_loopg [8] 2 (fun gk i wr => w = wr ∧ ∃ k : Nat, k ≤ 2 ∧ gk = 2 - k ∧ i = .int .i64 k ∧ (1 ≤ k → a = 0) ∧ (2 ≤ k → b = 0))
  case atStart => exact ⟨rfl, 0, by omega, by omega, rfl, fun h => by omega, fun h => by omega⟩
  case round =>
    obtain ⟨rfl, k, hk, hgk, rfl, ha, hb2⟩ := hrel
    have HGK := Lib.hid hgk
    have HA := Lib.hid ha
    have HB := Lib.hid hb2
    clear hgk ha hb2
    have hk3 : k = 0 ∨ k = 1 ∨ k = 2 := by omega
    rcases hk3 with rfl | rfl | rfl
    · cases h1 : (a != 0) with
      | true =>
        have HE := Lib.hid (show r = a from HR.out.symm.trans (if_neg (by simpa using h1)))
        go_wp2_with fail
        go_ret
        exact ⟨ret_int (by rw [HE.out]), rfl⟩
      | false =>
        have ha := Lib.hid (show a = 0 by simpa using h1)
        go_wp2_with fail
        go_roundg 1
        case measure => rw [HGK.out]; omega
        case rel => exact ⟨rfl, 1, by omega, by omega, by go_num, fun _ => ha.out, fun h => by omega⟩
    · cases h1 : (b != 0) with
      | true =>
        have HE := Lib.hid (show r = b from HR.out.symm.trans (if_pos (HA.out (by omega))))
        go_wp2_with fail
        go_ret
        exact ⟨ret_int (by rw [HE.out]), rfl⟩
      | false =>
        have hb := Lib.hid (show b = 0 by simpa using h1)
        go_wp2_with fail
        go_roundg 0
        case measure => rw [HGK.out]; omega
        case rel => exact ⟨rfl, 2, by omega, by omega, by go_num, fun _ => HA.out (by omega), fun _ => hb.out⟩
    · have HE := Lib.hid (show r = 0 from HR.out.symm.trans ((if_pos (HA.out (by omega))).trans (HB.out (by omega))))
      go_wp2_with fail
      go_ret
      exact ⟨ret_int (by rw [HE.out]), rfl⟩
set_option maxRecDepth 100000 in
set_option maxHeartbeats 2000000 in
theorem refs1_any (x y : Int × Int) (W : World) : Calls Tryz.prog 55 #[.agg (refC x).toArray, .agg (refC y).toArray] W fun e w' => e = .returned (.int .i64 (cmpP x y)) ∧ ∃ q os', w' = Go.Sort.grow (W.drewN q) os' := by
  obtain ⟨x1, x2⟩ := x
  obtain ⟨y1, y2⟩ := y
  show Calls Tryz.prog 55 #[.agg #[.int .i64 x1, .int .i64 x2], .agg #[.int .i64 y1, .int .i64 y2]] W _
  have HC := Lib.hid (show cmpP (x1, x2) (y1, y2) = if cmpC x1 y1 = 0 then cmpC x2 y2 else cmpC x1 y1 from rfl)
  have hb0 := (Blk.new W 26 #[.int .i64 x1, .int .i64 x2] rfl).alloc (.cells #[.int .i64 y1, .int .i64 y2] 26)
  have hb1 := Blk.new (W.alloc (.cells #[.int .i64 x1, .int .i64 x2] 26)) 26 #[.int .i64 y1, .int .i64 y2] (n := W.heap.size + 1) (by simp)
  have hS : (fun w' : World => w'.cell? ⟨W.heap.size, 0, none⟩ = some (.int .i64 x1) ∧ w'.cell? ⟨W.heap.size, 1, none⟩ = some (.int .i64 x2) ∧ w'.cell? ⟨W.heap.size + 1, 0, none⟩ = some (.int .i64 y1) ∧ w'.cell? ⟨W.heap.size + 1, 1, none⟩ = some (.int .i64 y2)) ((W.alloc (.cells #[.int .i64 x1, .int .i64 x2] 26)).alloc (.cells #[.int .i64 y1, .int .i64 y2] 26)).drew := ⟨hb0.drew.cell 0, hb0.drew.cell 1, hb1.drew.cell 0, hb1.drew.cell 1⟩
  have hbs := (Blk.new ((W.alloc (.cells #[.int .i64 x1, .int .i64 x2] 26)).alloc (.cells #[.int .i64 y1, .int .i64 y2] 26)) 3 #[.int .i64 (cmpC x1 y1), .int .i64 (cmpC x2 y2)] (n := W.heap.size + 1 + 1) (by simp)).drew
  have HCM1 := Lib.hid (fun w => compare_any x1 y1 w)
  have HCM2 := Lib.hid (fun w => compare_any x2 y2 w)
  obtain ⟨r, hr⟩ : ∃ r, cmpP (x1, x2) (y1, y2) = r := ⟨_, rfl⟩
  have HOR := Lib.hid (or_any (cmpC x1 y1) (cmpC x2 y2) r (HC.out.symm.trans hr) _ _ hbs)
  rw [hr]
  generalize cmpC x1 y1 = q1 at *
  generalize cmpC x2 y2 = q2 at *
  clear hr
  clear hb0 hb1 hbs
  go_enter Tryz.func55, Tryz.ntmps55
  go_wp2_with fail
  refine wp_region_R [10] (fun w' : World => w'.cell? ⟨W.heap.size, 0, none⟩ = some (.int .i64 x1) ∧ w'.cell? ⟨W.heap.size, 1, none⟩ = some (.int .i64 x2) ∧ w'.cell? ⟨W.heap.size + 1, 0, none⟩ = some (.int .i64 y1) ∧ w'.cell? ⟨W.heap.size + 1, 1, none⟩ = some (.int .i64 y2)) (by kernel_rfl) ?_
  refine wpAnyR_takeQ (i := 0) (v := ?_) (some 5) rfl rfl (by kernel_rfl) (by kernel_rfl) (by kernel_rfl) (by kernel_rfl) (fun _ _ _ h => h) (Or.inl ⟨by rfl, ?_⟩) ?_
  rotate_left
  focus (intro wS hSw; (try dsimp only at hSw); go_simp; (try with_reducible rfl); (try (first | (rw [if_pos (by omega)]; (try go_simp); (try with_reducible rfl)) | (rw [if_neg (by omega)]; (try go_simp); (try with_reducible rfl)))))
  try simp only [Act.put, List.setIfInBounds_toArray, List.set_cons_zero, List.set_cons_succ]
  refine wpAnyR_take (i := 1) (v := ?_) [4, 9, 10, 11, 12] (some 6) rfl rfl (by kernel_rfl) (by kernel_rfl) (by kernel_rfl) (by kernel_rfl) (by kernel_rfl) (by kernel_rfl) (by kernel_rfl) (fun _ _ _ h => h) (Or.inl ⟨by rfl, ?_⟩) hS ?_
  rotate_left
  focus (intro wS hSw; (try dsimp only at hSw); go_simp; (try with_reducible rfl); (try (first | (rw [if_pos (by omega)]; (try go_simp); (try with_reducible rfl)) | (rw [if_neg (by omega)]; (try go_simp); (try with_reducible rfl)))))
  try simp only [Act.put, List.setIfInBounds_toArray, List.set_cons_zero, List.set_cons_succ]
  refine wpAnyR_takeQ (i := 2) (v := ?_) (some 7) rfl rfl (by kernel_rfl) (by kernel_rfl) (by kernel_rfl) (by kernel_rfl) (fun _ _ _ h => h) (Or.inl ⟨by rfl, ?_⟩) ?_
  rotate_left
  focus (intro wS hSw; (try dsimp only at hSw); go_simp; (try with_reducible rfl); (try (first | (rw [if_pos (by omega)]; (try go_simp); (try with_reducible rfl)) | (rw [if_neg (by omega)]; (try go_simp); (try with_reducible rfl)))))
  try simp only [Act.put, List.setIfInBounds_toArray, List.set_cons_zero, List.set_cons_succ]
  refine wpAnyR_take (i := 3) (v := ?_) [4, 9, 10, 11, 12] (some 8) rfl rfl (by kernel_rfl) (by kernel_rfl) (by kernel_rfl) (by kernel_rfl) (by kernel_rfl) (by kernel_rfl) (by kernel_rfl) (fun _ _ _ h => h) (Or.inl ⟨by rfl, ?_⟩) hS ?_
  rotate_left
  focus (intro wS hSw; (try dsimp only at hSw); go_simp; (try with_reducible rfl); (try (first | (rw [if_pos (by omega)]; (try go_simp); (try with_reducible rfl)) | (rw [if_neg (by omega)]; (try go_simp); (try with_reducible rfl)))))
  try simp only [Act.put, List.setIfInBounds_toArray, List.set_cons_zero, List.set_cons_succ]
  refine wpAnyR_takeQ (i := 5) (v := ?_) (some 10) rfl rfl (by kernel_rfl) (by kernel_rfl) (by kernel_rfl) (by kernel_rfl) (fun _ _ _ h => h) (Or.inl ⟨by rfl, ?_⟩) ?_
  rotate_left
  focus (intro wS hSw; (try dsimp only at hSw); go_simp; (try with_reducible rfl); (try (first | (rw [if_pos (by omega)]; (try go_simp); (try with_reducible rfl)) | (rw [if_neg (by omega)]; (try go_simp); (try with_reducible rfl)))))
  try simp only [Act.put, List.setIfInBounds_toArray, List.set_cons_zero, List.set_cons_succ]
  refine wpAnyR_take (i := 6) (v := ?_) [9, 10, 11, 12] (some 11) rfl rfl (by kernel_rfl) (by kernel_rfl) (by kernel_rfl) (by kernel_rfl) (by kernel_rfl) (by kernel_rfl) (by kernel_rfl) (fun _ _ _ h => h) (Or.inl ⟨by rfl, ?_⟩) hS ?_
  rotate_left
  focus (intro wS hSw; (try dsimp only at hSw); go_simp; (try with_reducible rfl); (try (first | (rw [if_pos (by omega)]; (try go_simp); (try with_reducible rfl)) | (rw [if_neg (by omega)]; (try go_simp); (try with_reducible rfl)))))
  try simp only [Act.put, List.setIfInBounds_toArray, List.set_cons_zero, List.set_cons_succ]
  refine wpAnyR_takeQ (i := 7) (v := ?_) (some 12) rfl rfl (by kernel_rfl) (by kernel_rfl) (by kernel_rfl) (by kernel_rfl) (fun _ _ _ h => h) (Or.inl ⟨by rfl, ?_⟩) ?_
  rotate_left
  focus (intro wS hSw; (try dsimp only at hSw); go_simp; (try with_reducible rfl); (try (first | (rw [if_pos (by omega)]; (try go_simp); (try with_reducible rfl)) | (rw [if_neg (by omega)]; (try go_simp); (try with_reducible rfl)))))
  try simp only [Act.put, List.setIfInBounds_toArray, List.set_cons_zero, List.set_cons_succ]
  refine wpAnyR_take (i := 8) (v := ?_) [9, 10, 11, 12] (some 13) rfl rfl (by kernel_rfl) (by kernel_rfl) (by kernel_rfl) (by kernel_rfl) (by kernel_rfl) (by kernel_rfl) (by kernel_rfl) (fun _ _ _ h => h) (Or.inl ⟨by rfl, ?_⟩) hS ?_
  rotate_left
  focus (intro wS hSw; (try dsimp only at hSw); go_simp; (try with_reducible rfl); (try (first | (rw [if_pos (by omega)]; (try go_simp); (try with_reducible rfl)) | (rw [if_neg (by omega)]; (try go_simp); (try with_reducible rfl)))))
  try simp only [Act.put, List.setIfInBounds_toArray, List.set_cons_zero, List.set_cons_succ]
  refine wpAnyR_n1 (i := 4) rfl (by kernel_rfl) ?_
  intro K' hK
  rw [if_pos (by rfl)]
  simp only [List.getElem_toArray, List.getElem_cons_succ, List.getElem_cons_zero]
  go_wp2_with fail
  refine (HCM1.out _).mono ?_
  rintro e w1 ⟨rfl, rfl⟩
  go_wp2_with fail
  refine hK.out _ _ (.inr (fun h => h)) ?_
  clear hK
  refine wpAnyR_n1 (i := 9) rfl (by kernel_rfl) ?_
  intro K' hK
  rw [if_pos (by rfl)]
  simp only [List.getElem_toArray, List.getElem_cons_succ, List.getElem_cons_zero]
  go_wp2_with fail
  refine (HCM2.out _).mono ?_
  rintro e w1 ⟨rfl, rfl⟩
  go_wp2_with fail
  refine hK.out _ _ (.inr (fun h => h)) ?_
  clear hK
  refine wpAnyR_n1 (i := 10) rfl (by kernel_rfl) ?_
  intro K' hK
  rw [if_pos (by rfl)]
  simp only [List.getElem_toArray, List.getElem_cons_succ, List.getElem_cons_zero]
  go_wp2_with fail
  refine hK.out _ _ (.inl rfl) ?_
  clear hK
  refine wpAnyR_n1 (i := 11) rfl (by kernel_rfl) ?_
  intro K' hK
  rw [if_pos (by rfl)]
  simp only [List.getElem_toArray, List.getElem_cons_succ, List.getElem_cons_zero]
  go_wp2_with fail
  refine HOR.out.mono ?_
  rintro e w1 ⟨rfl, rfl⟩
  go_wp2_with fail
  refine hK.out _ _ (.inr (fun h => h)) ?_
  clear hK
  refine wpAnyR_takeQ (i := 12) (v := ?_) (some 4) rfl rfl (by kernel_rfl) (by kernel_rfl) (by kernel_rfl) (by kernel_rfl) (fun _ _ _ h => h) (Or.inl ⟨by rfl, ?_⟩) ?_
  rotate_left
  focus (intro wS hSw; (try dsimp only at hSw); go_simp; (try with_reducible rfl); (try (first | (rw [if_pos (by omega)]; (try go_simp); (try with_reducible rfl)) | (rw [if_neg (by omega)]; (try go_simp); (try with_reducible rfl)))))
  try simp only [Act.put, List.setIfInBounds_toArray, List.set_cons_zero, List.set_cons_succ]
  refine wpAnyR_done (by kernel_rfl) ?_ _
  go_wp2_with fail
  go_ret
  exact ⟨rfl, 1, _, by rw [Go.Sort.alloc_eq_grow, Go.Sort.alloc_eq_grow, Go.Sort.alloc_eq_grow, Go.Sort.grow_grow, Go.Sort.grow_grow]; rfl⟩
end Go.Proofs.YtnlaogneceanoaaGreat
namespace Go.Proofs.YtnlaogneceanoaaGreat
set_option linter.unusedVariables false
set_option linter.unusedSimpArgs false
set_option linter.unusedSectionVars false
open Go.RowKit Go.Shelf Go.Lib
attribute [local go_sem ↓] Go.wp_at_zero Go.wp_at_succ
theorem rsorted_turned (w : World) (g m : Nat) (d : Array (Int × Int)) (os : Array Obj) : Turned (fun i => i = g) w (Go.Proofs.sortWorldK refC 2 w g 0 m d os) := by
  refine ⟨rfl, rfl, rfl, ?_, fun k hk hs => ?_⟩
  · exact Go.Proofs.size_sortWorldK_c refC 2 w g 0 m d os
  · unfold Go.Proofs.sortWorldK Go.Sort.grow Go.Sort.putRowK Go.Sort.putRow Go.Sort.mapBlock Go.Sort.ahead
    show (w.heap.modify g _ ++ os)[k]? = w.heap[k]?
    rw [Array.getElem?_append_left (by rw [Array.size_modify]; exact hk), Array.getElem?_modify, if_neg (fun e => hs e.symm)]
theorem rwhole_extract (d : Array (Int × Int)) : (d.extract 0 d.size).toList = d.toList := by rw [Array.extract_size]
theorem rat_idx (d : Array (Int × Int)) (i : Nat) (h : i < d.size) : d[i]! = d.toList[i]'(by rw [Array.length_toList]; exact h) := by
  rw [getElem!_pos d i h, Array.getElem_toList]
theorem rholds_own {w : World} {base g cap : Nat} {N : List (Int × Int)} (h : OwnL w base 26 2 (.slice (some ⟨g, 0, none⟩) N.length cap) (N.map refC)) : Go.Sort.HoldsK refC 2 w g 0 N.toArray := by
  intro t ht
  have ht' : t < N.length * 2 := by simpa using ht
  have hj : t / 2 < N.length := by omega
  rw [Go.Sort.get_flatK _ _ _ _ (by simpa using ht'), Nat.zero_add]
  have hel : (N.toArray)[t / 2]! = N[t / 2] := by
    rw [getElem!_pos _ _ (by simpa using hj)]
    simp
  have hrow : (N.map refC)[t / 2]? = some (refC N[t / 2]) := by rw [List.getElem?_map, List.getElem?_eq_getElem hj]; rfl
  rw [hel]
  refine ⟨?_, h.frozen t⟩
  have hm : t = t / 2 * 2 + t % 2 := by omega
  have hlt : t % 2 < 2 := Nat.mod_lt _ (by decide)
  have hu : (refC N[t / 2])[t % 2]? = some ((refC N[t / 2])[t % 2]!) := by
    have hlen : (refC N[t / 2]).length = 2 := rfl
    rw [List.getElem?_eq_getElem (by omega), getElem!_pos _ _ (by omega)]
  have := h.cell (j := t / 2) (i := t % 2) hrow hu
  rwa [← hm] at this
theorem refs_held {w : World} {g : Nat} {d : Array (Int × Int)} (h : Go.Sort.HoldsK refC 2 w g 0 d) (hg : g < w.heap.size) : ListAt w w.heap.size 2 (some ⟨g, 0, none⟩) (d.toList.map refC) := by
  refine fun _ => ⟨g, 0, rfl, hg, fun j cs hj i v hi => ?_⟩
  rw [List.getElem?_map] at hj
  cases hx : d.toList[j]? with
  | none => rw [hx] at hj; cases hj
  | some x =>
    rw [hx] at hj
    have hjl : j < d.toList.length := (List.getElem?_eq_some_iff.1 hx).1
    have hjs : j < d.size := by rw [← Array.length_toList]; exact hjl
    injection hj with hj
    have hcs : cs = refC x := hj.symm
    have hil : i < cs.length := (List.getElem?_eq_some_iff.1 hi).1
    have hi2 : i < 2 := by rw [hcs] at hil; exact hil
    have hc := (h.cell (i := j) (c := i) hjs hi2).1
    have hxe : d[j]! = x := by
      rw [rat_idx d j hjs]
      exact (List.getElem?_eq_some_iff.1 hx).2
    rw [hxe, ← hcs, getElem!_pos cs i hil] at hc
    rw [hc, (List.getElem?_eq_some_iff.1 hi).2]
set_option maxRecDepth 100000 in
set_option maxHeartbeats 1000000 in
theorem rsort_any (g cap : Nat) (N : List (Int × Int)) (hN : N.length ≤ 100000) (w : World) (base : Nat) (hown : OwnL w base 26 2 (.slice (some ⟨g, 0, none⟩) N.length cap) (N.map refC)) :
    Calls Tryz.prog 54 #[.slice (some ⟨g, 0, none⟩) N.length cap, .func (.func 55) #[] #[]] w fun e w' => e = .returned (.tuple #[]) ∧ Turned (fun i => i = g) w w' ∧ ListAt w' w'.heap.size 2 (some ⟨g, 0, none⟩) ((sortP N).map refC) := by
  have hg : g < w.heap.size := by
    rcases hown.form with ⟨h, _⟩ | ⟨g', _, h, _, h2, _⟩
    · cases h
    · injection h with h
      injection h with h
      injection h with h
      omega
  have hH := rholds_own hown
  have hds : N.toArray.size = N.length := by simp
  have hdl : N.toArray.toList = N := by simp
  obtain ⟨d, hd⟩ : ∃ d, N.toArray = d := ⟨_, rfl⟩
  rw [hd] at hH hds hdl
  have eg : ∀ args w, (callFunc 55 args).run Tryz.prog w = .ok (.enter 55 args) w := enters_of Tryz.func55 (by kernel_rfl) rfl
  have hcon := Go.Proofs.AnyQ.slices_SortFunc sortRf 2 Tryz.isAgg26 Tryz.sizeOf26 refC (fun _ => rfl) (fun x v hv => by simp [refC] at hv; rcases hv with rfl | rfl <;> rfl) cmpP swP 55 #[] g 0 cap d w eg (fun m os dk hs x y => refs1_any x y _) hH hg (by rw [hds]; omega)
  change Calls Tryz.prog 54 _ _ _ at hcon
  rw [hds] at hcon
  refine hcon.mono ?_
  rintro e w' ⟨rfl, d', n, os, hp, hs, rfl⟩
  refine ⟨rfl, rsorted_turned w g n d' os, ?_⟩
  have hsz : d'.size = d.size := hp.1
  have hh := refs_held (d := d') (Go.Proofs.holdsK_sortWorldK_c refC 2 w g 0 d d' n os hH hg hsz) (Nat.lt_of_lt_of_le hg (Go.Proofs.size_sortWorldK_c refC 2 w g 0 n d' os))
  have he : d'.toList = sortP N := by
    refine sortP_is N _ ?_ ?_
    · have h3 := hp.2.2
      rw [← hds, rwhole_extract d, ← hsz, rwhole_extract d'] at h3
      rw [← hdl]
      exact h3
    · intro i j hi hj hij hlt
      rw [Array.length_toList] at hi hj
      have h4 := hs i j (Nat.zero_le _) hij (by omega)
      rw [rat_idx d' j hj, rat_idx d' i hi] at h4
      rw [(lt_cmpP _ _).2 hlt] at h4
      cases h4
  rw [he] at hh
  exact hh
theorem rsort_own (N : List (Int × Int)) (hN : N.length ≤ 100000) (w : World) (base : Nat) (v : Value) (hown : OwnL w base 26 2 v (N.map refC)) :
    ∃ A c, v = .slice A (sortP N).length c ∧ Calls Tryz.prog 54 #[.slice A (sortP N).length c, .func (.func 55) #[] #[]] w fun e w' => e = .returned (.tuple #[]) ∧ Turned (fun i => base ≤ i) w w' ∧ ListAt w' w'.heap.size 2 A ((sortP N).map refC) := by
  have hlen : (sortP N).length = N.length := (sortP_perm N).length_eq
  rcases hown.form with ⟨rfl, h0⟩ | ⟨g, cap, rfl, hg, hg2, _⟩
  · have hn0 : N.length = 0 := by have := congrArg List.length h0; simpa using this
    have hm0 : (sortP N).length = 0 := by omega
    refine ⟨none, 0, by rw [hm0], ?_⟩
    rw [hm0]
    have hcon := Go.Proofs.AnyF.slices_SortFunc_none sortRf none 0 (.func (.func 55) #[] #[]) w
    change Calls Tryz.prog 54 _ _ _ at hcon
    refine hcon.mono ?_
    rintro e w' ⟨rfl, rfl⟩
    refine ⟨rfl, Turned.refl _ _, ?_⟩
    rw [List.eq_nil_of_length_eq_zero hm0]
    exact fun h => absurd h (by decide)
  · rw [List.length_map] at hown ⊢
    refine ⟨some ⟨g, 0, none⟩, cap, by rw [hlen], ?_⟩
    rw [hlen]
    refine (rsort_any g cap N hN w base hown).mono ?_
    rintro e w' ⟨rfl, ht, hr⟩
    exact ⟨rfl, ht.mono (fun k _ hk => by subst hk; exact hg), hr⟩
/-- The references of the labels, in their order. -/
def rawR (ls : List Lab) : List (Int × Int) := (ls.filter fun l => !emL l).map fun l => (l.id, l.unit)
def refsT (T : Tab) : List (Int × Int) := sortP (rawR T.labels)
theorem rawR_snoc (ls : List Lab) (k : Nat) (h : k < ls.length) : rawR (ls.take (k + 1)) = rawR (ls.take k) ++ (if emL ls[k] = true then [] else [(ls[k].id, ls[k].unit)]) := by
  unfold rawR
  rw [List.take_succ_eq_append_getElem h, List.filter_append, List.map_append]
  congr 1
  cases hm : emL ls[k] <;> simp [hm]
theorem rawR_len (ls : List Lab) (k : Nat) : (rawR (ls.take k)).length ≤ k := by
  unfold rawR
  rw [List.length_map]
  have := List.length_filter_le (fun l => !emL l) (ls.take k)
  rw [List.length_take] at this
  omega
theorem info_ref : (Tryz.prog.info? 26).map (fun i => (i.zero, i.size, i.bytes)) = some (some (.agg #[.int .i64 0, .int .i64 0]), 2, 16) := by kernel_rfl
set_option maxRecDepth 100000 in
set_option maxHeartbeats 4000000 in
theorem refs_tab (A : Option Addr) (c : Nat) (xs : List LabE) (T : Tab) (w : World) (h : TabAt w A c xs T) (hs : SmallT T) (n : Nat) (hn : n = T.labels.length) (kf : List (Int × Int)) (hkf : refsT T = kf) :
    Calls Tryz.prog 14 #[.agg #[.string T.name, .int .i64 T.tracks, .slice A n c]] w fun e w' => ∃ A c, e = .returned (.slice A kf.length c) ∧ ListAt w' w'.heap.size 2 A (kf.map refC) ∧ Grew w w' := by
  subst hn
  have hlen := hs.len
  have hg0 := (Grew.refl w).alloc (.cells #[.string T.name, .int .i64 T.tracks, .slice A T.labels.length c] 24)
  have hb0 := Blk.new w 24 #[.string T.name, .int .i64 T.tracks, .slice A T.labels.length c] rfl
  have HTB := Lib.hid h
  have HS := Lib.hid hs
  have HKF := Lib.hid hkf
  clear h hs hkf
  have x2 := hb0.cell 2
  go_enter Tryz.func14, Tryz.ntmps14
  go_wp2_with fail
  go_loopg [3, 9] T.labels.length (fun gk ov i wr => ∃ k : Nat, k ≤ T.labels.length ∧ gk = T.labels.length - k ∧ i = .int .i64 k ∧ OwnL wr w.heap.size 26 2 ov ((rawR (T.labels.take k)).map refC) ∧ Grew w wr)
  case atStart => exact ⟨0, by omega, by omega, rfl, OwnL.nil _ _ _ _, hg0⟩
  case round =>
    obtain ⟨k, hk, hgk, rfl, hown, hg⟩ := hrel
    have HGK := Lib.hid hgk
    have HOWN := Lib.hid hown
    have HG := Lib.hid hg
    have hgs := hg.size
    have hrl := rawR_len T.labels k
    clear hgk x2 hb0 hg0
    by_cases hlt : k < T.labels.length
    · obtain ⟨b, off, B, d, l, rfl, hbl, hxk, hv, hla, c0, c1, c2, c3, c4⟩ := (HTB.out.hold hg).at_ hlt
      have hle := HS.out.ext T.labels[k] (List.getElem_mem hlt)
      rw [hv] at hle
      have hrs := rawR_snoc T.labels k hlt
      rw [hv] at hrs
      have HRS := Lib.hid hrs
      have hgl : Grew wr (wr.alloc (.cells #[.int .i64 l.id, .int .i64 l.unit, .string l.name, .string l.note, .slice B l.ext.length d] 31)) := (Grew.refl wr).alloc _
      have HE := Lib.hid (empty_any B d l _ (hla.hold hgl) hle)
      have HLB := Lib.hid (Blk.new wr 31 #[.int .i64 l.id, .int .i64 l.unit, .string l.name, .string l.note, .slice B l.ext.length d] rfl)
      have HGL := Lib.hid hgl
      clear hv hxk hla hrs hgl hown hg
      go_wp2_with fail
      refine HE.out.mono ?_
      rintro e w3 ⟨rfl, g3⟩
      have hg3 := HGL.out.trans g3
      have hlb := HLB.out.grew g3
      have y0 := hlb.cell 0
      have y1 := hlb.cell 1
      have hyl := hlb.lt
      have hown3 := HOWN.out.grew hg3
      have HG3 := Lib.hid (HG.out.trans hg3)
      have hzz := HG3.out.size
      cases hem : emL l with
      | true =>
        have HF := Lib.hid (show rawR (T.labels.take (k + 1)) = rawR (T.labels.take k) from by rw [HRS.out, if_pos hem, List.append_nil])
        have HO := Lib.hid hown3
        clear hem hlb hown3 hg3 g3 c0 c1 c2 c3 c4
        go_wp2_with fail
        go_roundg (T.labels.length - (k + 1))
        case measure => rw [HGK.out]; omega
        case rel => exact ⟨k + 1, by omega, by omega, by go_num, by rw [HF.out]; exact HO.out, HG3.out⟩
      | false =>
        have HF := Lib.hid (show rawR (T.labels.take (k + 1)) = rawR (T.labels.take k) ++ [(l.id, l.unit)] from by rw [HRS.out, if_neg (by rw [hem]; simp)])
        have hge := hown3.row_ge
        clear hem hlb hg3 g3 c0 c1 c2 c3 c4
        go_wp2_with (at_builtin; refine wpList_push rfl _ _ 36 rfl w.heap.size 26 2 16 _ Tryz.underlying36 info_ref rfl (by decide) w3 _ ((rawR (T.labels.take k)).map refC) (refC (l.id, l.unit)) (by rfl) rfl rfl hown3 (by first | rfl | (simp; done)) rfl rfl (by rw [List.length_map]; omega) (by rw [List.length_map]; omega) hzz ?_; intro v' w5 hown5 hgr hbk hsz)
        go_roundg (T.labels.length - (k + 1))
        case measure => rw [HGK.out]; omega
        case rel => exact ⟨k + 1, by omega, by omega, by go_num, by rw [HF.out, List.map_append]; exact hown5, hgr _ HG3.out (Nat.le_refl _)⟩
    · have hkn : k = T.labels.length := by omega
      subst hkn
      rw [List.take_length] at hown hrl
      obtain ⟨A1, c1, hv1, hso⟩ := rsort_own (rawR T.labels) (by omega) wr w.heap.size _ hown
      subst hv1
      have HSO := Lib.hid hso
      have HLE := Lib.hid (show sortP (rawR T.labels) = kf from HKF.out)
      rw [HLE.out] at HSO ⊢
      clear hso hown hg
      go_wp2_with fail
      refine HSO.out.mono ?_
      rintro e w7 ⟨rfl, ht7, hl7⟩
      have HG7 := Lib.hid (HG.out.turn ht7 (fun i hi => hi))
      have HL7 := Lib.hid hl7
      clear ht7 hl7
      go_wp2_with fail
      go_ret
      exact ⟨_, _, rfl, HL7.out, HG7.out⟩
end Go.Proofs.YtnlaogneceanoaaGreat
