/- Chapter 7: the conditions of valid labels. Chapter 7: the conditions on the extents. Chapter 7: Valid. Plain facts on the encoding of numbers, and AppendNumber's walk. Chapter 7: the encodings of labels. Chapter 7, plain: different labels have different encodings. Chapter 7: ValidName and the head, on both sides. The lists of runs that the laws take. Arguments opened: labels by value. The row's last step, for every law: the call returns true and turns nothing that was there. Chapter 7: LabelValid. Chapter 6, plain: the best run, the runs by size, and what is taken from them. -/
import Derived.WalkKit
import Derived.WalkSpells
import Derived.WalkLawsBesides
import Derived.Handy
import Derived.Lib.Hide
import Derived.IntWalk
import Derived.OwnWalk
import Derived.RegionTactic
import Derived.ChangeAlike
import Derived.PlainAid
import Derived.Deep.RegionWith
import Derived.Deep.RegionHeld3
import Derived.Deep.DrawnRows
import Derived.Lib.Strings
import Derived.ProofKit
import Derived.OpenShut
import Derived.Test.YtnlaogneceanoaaCsA
import Derived.Test.YtnlaogneceanoaaCsB
import Derived.Test.YtnlaogneceanoaaCsC
namespace Go.Proofs.Ytnlaogneceanoaa
set_option linter.unusedVariables false
set_option linter.unusedSimpArgs false
set_option linter.unusedSectionVars false
open Go.RowKit
def idB (l : Lab) : Bool := decide (1 ≤ l.id ∧ l.id ≤ 1099511627776 ∧ 0 ≤ l.unit ∧ l.unit ≤ 1099511627776)
def txB (l : Lab) : Bool := decide (l.name.size ≤ 31 ∧ l.note.size ≤ 400)
def cnB (l : Lab) : Bool := decide (1 ≤ l.ext.length ∧ l.ext.length ≤ 16)
def jnB (l : Lab) : Bool := decide (ints (joinS l.ext) = l.ext) && decide (seqS l.ext).Nodup
def badR (t : Int) (r : Int × Int) : Bool := decide (r.1 < ttS t) || decide (t < r.1 + r.2)
def inB (l : Lab) (t : Int) : Bool := !(l.ext.any (badR t))
def condS (l : Lab) (t : Int) : Nat → Bool
  | 0 => okT t
  | 1 => idB l
  | 2 => txB l
  | 3 => cnB l
  | 4 => jnB l
  | _ => inB l t
def validL (l : Lab) (t : Int) : Bool := okT t && (idB l && (txB l && (cnB l && (jnB l && inB l t))))
theorem valid_false (l : Lab) (t : Int) (k : Nat) (h : condS l t k = false) : validL l t = false := by
  unfold validL
  match k with
  | 0 => rw [show okT t = false from h]; rfl
  | 1 => rw [show idB l = false from h]; simp
  | 2 => rw [show txB l = false from h]; simp
  | 3 => rw [show cnB l = false from h]; simp
  | 4 => rw [show jnB l = false from h]; simp
  | k + 5 => rw [show inB l t = false from h]; simp
theorem valid_true (l : Lab) (t : Int) (h : ∀ k, k < 6 → condS l t k = true) : validL l t = true := by
  unfold validL
  rw [show okT t = true from h 0 (by omega), show idB l = true from h 1 (by omega), show txB l = true from h 2 (by omega), show cnB l = true from h 3 (by omega), show jnB l = true from h 4 (by omega), show inB l t = true from h 5 (by omega)]
  rfl
theorem jn_bd (l : Lab) (h : jnB l = true) : ∀ r ∈ l.ext, 0 ≤ r.1 ∧ 0 ≤ r.2 ∧ r.1 + r.2 ≤ 128 := by
  unfold jnB at h
  rw [Bool.and_eq_true, decide_eq_true_eq] at h
  intro r hr
  rw [← h.1] at hr
  obtain ⟨x, hx, rfl⟩ := List.mem_map.1 hr
  have := joinS_bd l.ext x hx
  simp only
  omega
section
variable (A : Option Addr) (c : Nat) (l : Lab) (g : Nat) (w : World)
set_option maxRecDepth 100000 in
theorem cond0_any (t : Int) (hb : Blk w g 3 #[.int .i64 t]) :
    Calls Try.prog 72 #[.pointer (some ⟨g, 0, none⟩)] w fun e w' => e = .returned (.bool (okT t)) ∧ Grew w w' := by
  have x0 := hb.cell 0
  have hl := hb.lt
  go_enter Try.func72, Try.ntmps72
  go_wp2_with fail
  refine (tracksOK_any _ _).mono ?_
  rintro e w1 ⟨rfl, rfl⟩
  go_wp2_with fail
  go_ret
  exact ⟨rfl, Grew.refl _⟩
set_option maxRecDepth 100000 in
theorem cond1_any (hb : Blk w g 24 #[.int .i64 l.id, .int .i64 l.unit, .string l.name, .string l.note, .slice A l.ext.length c]) :
    Calls Try.prog 73 #[.pointer (some ⟨g, 0, none⟩)] w fun e w' => e = .returned (.bool (idB l)) ∧ Grew w w' := by
  have x0 := hb.cell 0
  have x1 := hb.cell 1
  have hl := hb.lt
  obtain ⟨id, unit, name, note, ext⟩ := l
  simp only at x0 x1
  have HE := Lib.hid (show idB ⟨id, unit, name, note, ext⟩ = decide (1 ≤ id ∧ id ≤ 1099511627776 ∧ 0 ≤ unit ∧ unit ≤ 1099511627776) from rfl)
  clear hb
  by_cases h1 : 1 ≤ id
  · by_cases h2 : id ≤ 1099511627776
    · by_cases h3 : 0 ≤ unit
      · by_cases h4 : unit ≤ 1099511627776
        · have HF := Lib.hid (show idB ⟨id, unit, name, note, ext⟩ = true from HE.out.trans (by simp [h1, h2, h3, h4]))
          clear HE
          go_enter Try.func73, Try.ntmps73
          go_wp2_with fail
          go_ret
          exact ⟨ret_bool (by rw [HF.out]), Grew.refl _⟩
        · have HF := Lib.hid (show idB ⟨id, unit, name, note, ext⟩ = false from HE.out.trans (by simp [h1, h2, h3, h4]))
          clear HE
          go_enter Try.func73, Try.ntmps73
          go_wp2_with fail
          go_ret
          exact ⟨ret_bool (by rw [HF.out]), Grew.refl _⟩
      · have HF := Lib.hid (show idB ⟨id, unit, name, note, ext⟩ = false from HE.out.trans (by simp [h1, h2, h3]))
        clear HE
        go_enter Try.func73, Try.ntmps73
        go_wp2_with fail
        go_ret
        exact ⟨ret_bool (by rw [HF.out]), Grew.refl _⟩
    · have HF := Lib.hid (show idB ⟨id, unit, name, note, ext⟩ = false from HE.out.trans (by simp [h1, h2]))
      clear HE
      go_enter Try.func73, Try.ntmps73
      go_wp2_with fail
      go_ret
      exact ⟨ret_bool (by rw [HF.out]), Grew.refl _⟩
  · have HF := Lib.hid (show idB ⟨id, unit, name, note, ext⟩ = false from HE.out.trans (by simp [h1]))
    clear HE
    go_enter Try.func73, Try.ntmps73
    go_wp2_with fail
    go_ret
    exact ⟨ret_bool (by rw [HF.out]), Grew.refl _⟩
set_option maxRecDepth 100000 in
theorem cond2_any (hs1 : l.name.size ≤ 9223372036854775807) (hs2 : l.note.size ≤ 9223372036854775807) (hb : Blk w g 24 #[.int .i64 l.id, .int .i64 l.unit, .string l.name, .string l.note, .slice A l.ext.length c]) :
    Calls Try.prog 74 #[.pointer (some ⟨g, 0, none⟩)] w fun e w' => e = .returned (.bool (txB l)) ∧ Grew w w' := by
  have x0 := hb.cell 2
  have x1 := hb.cell 3
  have hl := hb.lt
  obtain ⟨id, unit, name, note, ext⟩ := l
  simp only at x0 x1 hs1 hs2
  have HE := Lib.hid (show txB ⟨id, unit, name, note, ext⟩ = decide (name.size ≤ 31 ∧ note.size ≤ 400) from rfl)
  clear hb
  by_cases h1 : name.size ≤ 31
  · by_cases h2 : note.size ≤ 400
    · have h2i : (note.size : Int) ≤ 400 := by omega
      have HF := Lib.hid (show txB ⟨id, unit, name, note, ext⟩ = true from HE.out.trans (by simp [h1, h2]))
      clear HE
      go_enter Try.func74, Try.ntmps74
      go_wp2_with fail
      go_ret
      exact ⟨ret_bool (by rw [HF.out]), Grew.refl _⟩
    · have h2i : ¬ (note.size : Int) ≤ 400 := by omega
      have HF := Lib.hid (show txB ⟨id, unit, name, note, ext⟩ = false from HE.out.trans (by simp [h1, h2]))
      clear HE
      go_enter Try.func74, Try.ntmps74
      go_wp2_with fail
      go_ret
      exact ⟨ret_bool (by rw [HF.out]), Grew.refl _⟩
  · have HF := Lib.hid (show txB ⟨id, unit, name, note, ext⟩ = false from HE.out.trans (by simp [h1]))
    clear HE
    go_enter Try.func74, Try.ntmps74
    go_wp2_with fail
    go_ret
    exact ⟨ret_bool (by rw [HF.out]), Grew.refl _⟩
set_option maxRecDepth 100000 in
theorem cond3_any (hs : l.ext.length ≤ 1000000000) (hb : Blk w g 24 #[.int .i64 l.id, .int .i64 l.unit, .string l.name, .string l.note, .slice A l.ext.length c]) :
    Calls Try.prog 75 #[.pointer (some ⟨g, 0, none⟩)] w fun e w' => e = .returned (.bool (cnB l)) ∧ Grew w w' := by
  have x1 := hb.cell 4
  have hl := hb.lt
  obtain ⟨id, unit, name, note, ext⟩ := l
  simp only at x1 hs
  have HE := Lib.hid (show cnB ⟨id, unit, name, note, ext⟩ = decide (1 ≤ ext.length ∧ ext.length ≤ 16) from rfl)
  clear hb
  generalize ext.length = n at *
  by_cases h1 : 1 ≤ n
  · have h1i : 1 ≤ (n : Int) := by omega
    by_cases h2 : n ≤ 16
    · have h2i : (n : Int) ≤ 16 := by omega
      have HF := Lib.hid (show cnB ⟨id, unit, name, note, ext⟩ = true from HE.out.trans (by simp [h1, h2]))
      clear HE
      go_enter Try.func75, Try.ntmps75
      go_wp2_with fail
      go_ret
      exact ⟨ret_bool (by rw [HF.out]), Grew.refl _⟩
    · have h2i : ¬ (n : Int) ≤ 16 := by omega
      have HF := Lib.hid (show cnB ⟨id, unit, name, note, ext⟩ = false from HE.out.trans (by simp [h1, h2]))
      clear HE
      go_enter Try.func75, Try.ntmps75
      go_wp2_with fail
      go_ret
      exact ⟨ret_bool (by rw [HF.out]), Grew.refl _⟩
  · have h1i : ¬ 1 ≤ (n : Int) := by omega
    have HF := Lib.hid (show cnB ⟨id, unit, name, note, ext⟩ = false from HE.out.trans (by simp [h1]))
    clear HE
    go_enter Try.func75, Try.ntmps75
    go_wp2_with fail
    go_ret
    exact ⟨ret_bool (by rw [HF.out]), Grew.refl _⟩
end
end Go.Proofs.Ytnlaogneceanoaa
namespace Go.Proofs.Ytnlaogneceanoaa
set_option linter.unusedVariables false
set_option linter.unusedSimpArgs false
set_option linter.unusedSectionVars false
open Go.RowKit
attribute [local go_sem ↓] Go.wp_at_zero Go.wp_at_succ
theorem RunsAt.mono2 {w : World} {B B' : Nat} {A : Option Addr} {l : List (Int × Int)} (h : RunsAt w B A l) (hB : B ≤ B') : RunsAt w B' A l := ⟨h.1, h.2.mono hB⟩
section
variable (A : Option Addr) (c : Nat) (l : Lab) (g : Nat) (w : World)
set_option maxRecDepth 100000 in
set_option maxHeartbeats 1000000 in
theorem cond4_any (h : LabAt w A c l) (hs : l.ext.length ≤ 100000) (hb : Blk w g 24 #[.int .i64 l.id, .int .i64 l.unit, .string l.name, .string l.note, .slice A l.ext.length c]) :
    Calls Try.prog 76 #[.pointer (some ⟨g, 0, none⟩)] w fun e w' => e = .returned (.bool (jnB l)) ∧ Grew w w' := by
  have hl := hb.lt
  have hJ := jnB l
  obtain ⟨k, hk⟩ : ∃ k, ints (joinS l.ext) = k := ⟨_, rfl⟩
  have hkl : k.length ≤ l.ext.length := by rw [← hk, ints_len]; exact joinS_len _
  have HR := Lib.hid h.runs
  have HB := Lib.hid hb
  have HK := Lib.hid hk
  have HE := Lib.hid (show jnB l = (decide (k = l.ext) && decide (seqS l.ext).Nodup) from by unfold jnB; rw [hk])
  clear h hk hJ
  cases hj : decide (k = l.ext) with
  | false =>
    have HJ := Lib.hid hj
    have HF := Lib.hid (show jnB l = false from HE.out.trans (by rw [hj]; rfl))
    clear hj HE
    go_enter Try.func76, Try.ntmps76
    go_wp2_with fail
    refine wp_region_R [] (fun w' : World => w'.cell? ⟨g, 4, none⟩ = some (.slice A l.ext.length c)) (by kernel_rfl) ?_
    have hS := HB.out.drew.cell 4
    refine wpAnyR_takeQ (i := 0) (v := ?_) (some 2) rfl rfl (by kernel_rfl) (by kernel_rfl) (by kernel_rfl) (by kernel_rfl) (fun _ _ _ h => h) (Or.inl ⟨by rfl, ?_⟩) ?_
    rotate_left
    focus (intro wS hSw; (try dsimp only at hSw); go_simp; (try with_reducible rfl); (try (first | (rw [if_pos (by omega)]; (try go_simp); (try with_reducible rfl)) | (rw [if_neg (by omega)]; (try go_simp); (try with_reducible rfl)))))
    try simp only [Act.put, List.setIfInBounds_toArray, List.set_cons_zero, List.set_cons_succ]
    refine wpAnyR_take (i := 1) (v := ?_) [2, 5, 6, 7, 8, 9, 10, 11] (some 3) rfl rfl (by kernel_rfl) (by kernel_rfl) (by kernel_rfl) (by kernel_rfl) (by kernel_rfl) (by kernel_rfl) (by kernel_rfl) (fun _ _ _ h => h) (Or.inl ⟨by rfl, ?_⟩) hS ?_
    rotate_left
    focus (intro wS hSw; (try dsimp only at hSw); go_simp; (try with_reducible rfl); (try (first | (rw [if_pos (by omega)]; (try go_simp); (try with_reducible rfl)) | (rw [if_neg (by omega)]; (try go_simp); (try with_reducible rfl)))))
    try simp only [Act.put, List.setIfInBounds_toArray, List.set_cons_zero, List.set_cons_succ]
    refine wpAnyR_takeQ (i := 3) (v := ?_) (some 5) rfl rfl (by kernel_rfl) (by kernel_rfl) (by kernel_rfl) (by kernel_rfl) (fun _ _ _ h => h) (Or.inl ⟨by rfl, ?_⟩) ?_
    rotate_left
    focus (intro wS hSw; (try dsimp only at hSw); go_simp; (try with_reducible rfl); (try (first | (rw [if_pos (by omega)]; (try go_simp); (try with_reducible rfl)) | (rw [if_neg (by omega)]; (try go_simp); (try with_reducible rfl)))))
    try simp only [Act.put, List.setIfInBounds_toArray, List.set_cons_zero, List.set_cons_succ]
    refine wpAnyR_take (i := 4) (v := ?_) [5, 6, 7, 8, 9, 10, 11] (some 6) rfl rfl (by kernel_rfl) (by kernel_rfl) (by kernel_rfl) (by kernel_rfl) (by kernel_rfl) (by kernel_rfl) (by kernel_rfl) (fun _ _ _ h => h) (Or.inl ⟨by rfl, ?_⟩) hS ?_
    rotate_left
    focus (intro wS hSw; (try dsimp only at hSw); go_simp; (try with_reducible rfl); (try (first | (rw [if_pos (by omega)]; (try go_simp); (try with_reducible rfl)) | (rw [if_neg (by omega)]; (try go_simp); (try with_reducible rfl)))))
    try simp only [Act.put, List.setIfInBounds_toArray, List.set_cons_zero, List.set_cons_succ]
    refine wpAnyR_n1 (i := 2) rfl (by kernel_rfl) ?_
    intro K' hK
    rw [if_pos (by rfl)]
    simp only [List.getElem_toArray, List.getElem_cons_succ, List.getElem_cons_zero]
    go_wp2_with fail
    refine (join_val A c _ l.ext w.drew rfl (by omega) HR.out k HK.out).mono ?_
    rintro e w1 ⟨A1, c1, rfl, hr1, g1⟩
    have HR1 := Lib.hid hr1
    clear hr1
    go_wp2_with fail
    refine hK.out _ _ (.inr (fun _ => (HB.out.drew.grew g1).cell 4)) ?_
    clear hK hS
    have g1' : Grew w w1 := (Grew.refl w).drew.trans g1
    have hS := (HB.out.grew g1').cell 4
    refine wpAnyR_n1 (i := 5) rfl (by kernel_rfl) ?_
    intro K' hK
    rw [if_pos (by rfl)]
    simp only [List.getElem_toArray, List.getElem_cons_succ, List.getElem_cons_zero]
    go_wp2_with fail
    refine (equal_any A1 A c1 c k l.ext w1 w1.heap.size (Nat.le_refl _) (by omega) (by omega) HR1.out ((HR.out.keep (Nat.le_refl _) g1').mono2 g1'.size)).mono ?_
    rintro e w2 ⟨rfl, g2'⟩
    rw [HJ.out]
    have g2 : Grew w w2 := g1'.trans g2'
    go_wp2_with fail
    refine hK.out _ _ (.inr (fun _ => (HB.out.grew g2).cell 4)) ?_
    clear hK hS
    have hS := (HB.out.grew g2).cell 4
    refine wpAnyR_takeQ (i := 6) (v := ?_) (some 8) rfl rfl (by kernel_rfl) (by kernel_rfl) (by kernel_rfl) (by kernel_rfl) (fun _ _ _ h => h) (Or.inl ⟨by rfl, ?_⟩) ?_
    rotate_left
    focus (intro wS hSw; (try dsimp only at hSw); go_simp; (try with_reducible rfl); (try (first | (rw [if_pos (by omega)]; (try go_simp); (try with_reducible rfl)) | (rw [if_neg (by omega)]; (try go_simp); (try with_reducible rfl)))))
    try simp only [Act.put, List.setIfInBounds_toArray, List.set_cons_zero, List.set_cons_succ]
    refine wpAnyR_takeQ (i := 7) (v := undef) (some 9) rfl rfl (by kernel_rfl) (by kernel_rfl) (by kernel_rfl) (by kernel_rfl) (fun _ _ _ h => h) (Or.inr ⟨by rfl, rfl⟩) ?_
    try simp only [Act.put, List.setIfInBounds_toArray, List.set_cons_zero, List.set_cons_succ]
    refine wpAnyR_takeQ (i := 8) (v := undef) (some 10) rfl rfl (by kernel_rfl) (by kernel_rfl) (by kernel_rfl) (by kernel_rfl) (fun _ _ _ h => h) (Or.inr ⟨by rfl, rfl⟩) ?_
    try simp only [Act.put, List.setIfInBounds_toArray, List.set_cons_zero, List.set_cons_succ]
    refine wpAnyR_takeQ (i := 9) (v := undef) (some 11) rfl rfl (by kernel_rfl) (by kernel_rfl) (by kernel_rfl) (by kernel_rfl) (fun _ _ _ h => h) (Or.inr ⟨by rfl, rfl⟩) ?_
    try simp only [Act.put, List.setIfInBounds_toArray, List.set_cons_zero, List.set_cons_succ]
    refine wpAnyR_takeQ (i := 10) (v := ?_) (some 12) rfl rfl (by kernel_rfl) (by kernel_rfl) (by kernel_rfl) (by kernel_rfl) (fun _ _ _ h => h) (Or.inl ⟨by rfl, ?_⟩) ?_
    rotate_left
    focus (intro wS hSw; (try dsimp only at hSw); go_simp; (try with_reducible rfl); (try (first | (rw [if_pos (by omega)]; (try go_simp); (try with_reducible rfl)) | (rw [if_neg (by omega)]; (try go_simp); (try with_reducible rfl)))))
    try simp only [Act.put, List.setIfInBounds_toArray, List.set_cons_zero, List.set_cons_succ]
    refine wpAnyR_takeQ (i := 11) (v := ?_) (some 1) rfl rfl (by kernel_rfl) (by kernel_rfl) (by kernel_rfl) (by kernel_rfl) (fun _ _ _ h => h) (Or.inl ⟨by rfl, ?_⟩) ?_
    rotate_left
    focus (intro wS hSw; (try dsimp only at hSw); go_simp; (try with_reducible rfl); (try (first | (rw [if_pos (by omega)]; (try go_simp); (try with_reducible rfl)) | (rw [if_neg (by omega)]; (try go_simp); (try with_reducible rfl)))))
    try simp only [Act.put, List.setIfInBounds_toArray, List.set_cons_zero, List.set_cons_succ]
    refine wpAnyR_done (by kernel_rfl) ?_ _
    go_wp2_with fail
    go_ret
    exact ⟨ret_bool (by rw [HF.out]), g2⟩
  | true =>
    have HJ := Lib.hid hj
    have HF := Lib.hid (show jnB l = decide (seqS l.ext).Nodup from HE.out.trans (by rw [hj]; rfl))
    clear hj HE
    go_enter Try.func76, Try.ntmps76
    go_wp2_with fail
    refine wp_region_R [] (fun w' : World => w'.cell? ⟨g, 4, none⟩ = some (.slice A l.ext.length c)) (by kernel_rfl) ?_
    have hS := HB.out.drew.cell 4
    refine wpAnyR_takeQ (i := 0) (v := ?_) (some 2) rfl rfl (by kernel_rfl) (by kernel_rfl) (by kernel_rfl) (by kernel_rfl) (fun _ _ _ h => h) (Or.inl ⟨by rfl, ?_⟩) ?_
    rotate_left
    focus (intro wS hSw; (try dsimp only at hSw); go_simp; (try with_reducible rfl); (try (first | (rw [if_pos (by omega)]; (try go_simp); (try with_reducible rfl)) | (rw [if_neg (by omega)]; (try go_simp); (try with_reducible rfl)))))
    try simp only [Act.put, List.setIfInBounds_toArray, List.set_cons_zero, List.set_cons_succ]
    refine wpAnyR_take (i := 1) (v := ?_) [2, 5, 6, 7, 8, 9, 10, 11] (some 3) rfl rfl (by kernel_rfl) (by kernel_rfl) (by kernel_rfl) (by kernel_rfl) (by kernel_rfl) (by kernel_rfl) (by kernel_rfl) (fun _ _ _ h => h) (Or.inl ⟨by rfl, ?_⟩) hS ?_
    rotate_left
    focus (intro wS hSw; (try dsimp only at hSw); go_simp; (try with_reducible rfl); (try (first | (rw [if_pos (by omega)]; (try go_simp); (try with_reducible rfl)) | (rw [if_neg (by omega)]; (try go_simp); (try with_reducible rfl)))))
    try simp only [Act.put, List.setIfInBounds_toArray, List.set_cons_zero, List.set_cons_succ]
    refine wpAnyR_takeQ (i := 3) (v := ?_) (some 5) rfl rfl (by kernel_rfl) (by kernel_rfl) (by kernel_rfl) (by kernel_rfl) (fun _ _ _ h => h) (Or.inl ⟨by rfl, ?_⟩) ?_
    rotate_left
    focus (intro wS hSw; (try dsimp only at hSw); go_simp; (try with_reducible rfl); (try (first | (rw [if_pos (by omega)]; (try go_simp); (try with_reducible rfl)) | (rw [if_neg (by omega)]; (try go_simp); (try with_reducible rfl)))))
    try simp only [Act.put, List.setIfInBounds_toArray, List.set_cons_zero, List.set_cons_succ]
    refine wpAnyR_take (i := 4) (v := ?_) [5, 6, 7, 8, 9, 10, 11] (some 6) rfl rfl (by kernel_rfl) (by kernel_rfl) (by kernel_rfl) (by kernel_rfl) (by kernel_rfl) (by kernel_rfl) (by kernel_rfl) (fun _ _ _ h => h) (Or.inl ⟨by rfl, ?_⟩) hS ?_
    rotate_left
    focus (intro wS hSw; (try dsimp only at hSw); go_simp; (try with_reducible rfl); (try (first | (rw [if_pos (by omega)]; (try go_simp); (try with_reducible rfl)) | (rw [if_neg (by omega)]; (try go_simp); (try with_reducible rfl)))))
    try simp only [Act.put, List.setIfInBounds_toArray, List.set_cons_zero, List.set_cons_succ]
    refine wpAnyR_n1 (i := 2) rfl (by kernel_rfl) ?_
    intro K' hK
    rw [if_pos (by rfl)]
    simp only [List.getElem_toArray, List.getElem_cons_succ, List.getElem_cons_zero]
    go_wp2_with fail
    refine (join_val A c _ l.ext w.drew rfl (by omega) HR.out k HK.out).mono ?_
    rintro e w1 ⟨A1, c1, rfl, hr1, g1⟩
    have HR1 := Lib.hid hr1
    clear hr1
    go_wp2_with fail
    refine hK.out _ _ (.inr (fun _ => (HB.out.drew.grew g1).cell 4)) ?_
    clear hK hS
    have g1' : Grew w w1 := (Grew.refl w).drew.trans g1
    have hS := (HB.out.grew g1').cell 4
    refine wpAnyR_n1 (i := 5) rfl (by kernel_rfl) ?_
    intro K' hK
    rw [if_pos (by rfl)]
    simp only [List.getElem_toArray, List.getElem_cons_succ, List.getElem_cons_zero]
    go_wp2_with fail
    refine (equal_any A1 A c1 c k l.ext w1 w1.heap.size (Nat.le_refl _) (by omega) (by omega) HR1.out ((HR.out.keep (Nat.le_refl _) g1').mono2 g1'.size)).mono ?_
    rintro e w2 ⟨rfl, g2'⟩
    rw [HJ.out]
    have g2 : Grew w w2 := g1'.trans g2'
    go_wp2_with fail
    refine hK.out _ _ (.inr (fun _ => (HB.out.grew g2).cell 4)) ?_
    clear hK hS
    have hS := (HB.out.grew g2).cell 4
    refine wpAnyR_takeQ (i := 6) (v := ?_) (some 8) rfl rfl (by kernel_rfl) (by kernel_rfl) (by kernel_rfl) (by kernel_rfl) (fun _ _ _ h => h) (Or.inl ⟨by rfl, ?_⟩) ?_
    rotate_left
    focus (intro wS hSw; (try dsimp only at hSw); go_simp; (try with_reducible rfl); (try (first | (rw [if_pos (by omega)]; (try go_simp); (try with_reducible rfl)) | (rw [if_neg (by omega)]; (try go_simp); (try with_reducible rfl)))))
    try simp only [Act.put, List.setIfInBounds_toArray, List.set_cons_zero, List.set_cons_succ]
    refine wpAnyR_takeQ (i := 7) (v := ?_) (some 9) rfl rfl (by kernel_rfl) (by kernel_rfl) (by kernel_rfl) (by kernel_rfl) (fun _ _ _ h => h) (Or.inl ⟨by rfl, ?_⟩) ?_
    rotate_left
    focus (intro wS hSw; (try dsimp only at hSw); go_simp; (try with_reducible rfl); (try (first | (rw [if_pos (by omega)]; (try go_simp); (try with_reducible rfl)) | (rw [if_neg (by omega)]; (try go_simp); (try with_reducible rfl)))))
    try simp only [Act.put, List.setIfInBounds_toArray, List.set_cons_zero, List.set_cons_succ]
    refine wpAnyR_take (i := 8) (v := ?_) [9, 10, 11] (some 10) rfl rfl (by kernel_rfl) (by kernel_rfl) (by kernel_rfl) (by kernel_rfl) (by kernel_rfl) (by kernel_rfl) (by kernel_rfl) (fun _ _ _ h => h) (Or.inl ⟨by rfl, ?_⟩) hS ?_
    rotate_left
    focus (intro wS hSw; (try dsimp only at hSw); go_simp; (try with_reducible rfl); (try (first | (rw [if_pos (by omega)]; (try go_simp); (try with_reducible rfl)) | (rw [if_neg (by omega)]; (try go_simp); (try with_reducible rfl)))))
    try simp only [Act.put, List.setIfInBounds_toArray, List.set_cons_zero, List.set_cons_succ]
    refine wpAnyR_n1 (i := 9) rfl (by kernel_rfl) ?_
    intro K' hK
    rw [if_pos (by rfl)]
    simp only [List.getElem_toArray, List.getElem_cons_succ, List.getElem_cons_zero]
    go_wp2_with fail
    refine (disjoint_val rfl (by omega) ((HR.out.keep (Nat.le_refl _) g2).mono2 g2.size) _ rfl).mono ?_
    rintro e w3 ⟨rfl, g3⟩
    have HG3 := Lib.hid (g2.trans g3)
    clear g3
    go_wp2_with fail
    refine hK.out _ _ (.inr (fun _ => (HB.out.grew HG3.out).cell 4)) ?_
    clear hK
    refine wpAnyR_takeQ (i := 10) (v := ?_) (some 12) rfl rfl (by kernel_rfl) (by kernel_rfl) (by kernel_rfl) (by kernel_rfl) (fun _ _ _ h => h) (Or.inl ⟨by rfl, ?_⟩) ?_
    rotate_left
    focus (intro wS hSw; (try dsimp only at hSw); go_simp; (try with_reducible rfl); (try (first | (rw [if_pos (by omega)]; (try go_simp); (try with_reducible rfl)) | (rw [if_neg (by omega)]; (try go_simp); (try with_reducible rfl)))))
    try simp only [Act.put, List.setIfInBounds_toArray, List.set_cons_zero, List.set_cons_succ]
    refine wpAnyR_takeQ (i := 11) (v := ?_) (some 1) rfl rfl (by kernel_rfl) (by kernel_rfl) (by kernel_rfl) (by kernel_rfl) (fun _ _ _ h => h) (Or.inl ⟨by rfl, ?_⟩) ?_
    rotate_left
    focus (intro wS hSw; (try dsimp only at hSw); go_simp; (try with_reducible rfl); (try (first | (rw [if_pos (by omega)]; (try go_simp); (try with_reducible rfl)) | (rw [if_neg (by omega)]; (try go_simp); (try with_reducible rfl)))))
    try simp only [Act.put, List.setIfInBounds_toArray, List.set_cons_zero, List.set_cons_succ]
    refine wpAnyR_done (by kernel_rfl) ?_ _
    go_wp2_with fail
    go_ret
    exact ⟨ret_bool (by rw [HF.out]), HG3.out⟩
end
set_option maxRecDepth 100000 in
theorem bad1_any (t f n : Int) (g1 g2 : Nat) (w : World) (h1 : Blk w g1 3 #[.int .i64 (ttS t)]) (h2 : Blk w g2 3 #[.int .i64 t]) (hf : 0 ≤ f ∧ f ≤ 1000) (hn : 0 ≤ n ∧ n ≤ 1000) :
    Calls Try.prog 81 #[.agg #[.int .i64 f, .int .i64 n], .pointer (some ⟨g1, 0, none⟩), .pointer (some ⟨g2, 0, none⟩)] w fun e w' => e = .returned (.bool (badR t (f, n))) ∧ Grew w w' := by
  obtain ⟨hf0, hf1⟩ := hf
  obtain ⟨hn0, hn1⟩ := hn
  have hl1 := h1.lt
  have hl2 := h2.lt
  have x1 := h1.cell 0
  have x2 := h2.cell 0
  have HB := Lib.hid (show badR t (f, n) = (decide (f < ttS t) || decide (t < f + n)) from rfl)
  clear h1 h2
  generalize ttS t = tt at *
  by_cases a1 : f < tt
  · have HF := Lib.hid (show badR t (f, n) = true from HB.out.trans (by simp [a1]))
    clear HB
    go_enter Try.func81, Try.ntmps81
    go_wp2_with fail
    go_ret
    exact ⟨ret_bool (by rw [HF.out]), by (repeat' first | (with_reducible exact Grew.refl _) | (with_reducible assumption) | (with_reducible refine Grew.alloc ?_ _) | (with_reducible refine Grew.drew ?_) | (with_reducible refine Grew.drewN ?_ _) | (with_reducible refine Grew.setRow ?_ (by first | (simp; done) | (simp; omega) | omega) _) | (with_reducible refine Grew.setCell ?_ (by first | (simp; done) | (simp; omega) | omega) _) | ((with_reducible apply Grew.trans); rotate_left; (with_reducible assumption)) | ((with_reducible apply Grew.turn); rotate_left; (with_reducible assumption); (focus (intro i hi; first | omega | (simp at hi; omega)))) | fail)⟩
  · by_cases a2 : t < f + n
    · have HF := Lib.hid (show badR t (f, n) = true from HB.out.trans (by simp [a1, a2]))
      clear HB
      go_enter Try.func81, Try.ntmps81
      go_wp2_with fail
      go_ret
      exact ⟨ret_bool (by rw [HF.out]), by (repeat' first | (with_reducible exact Grew.refl _) | (with_reducible assumption) | (with_reducible refine Grew.alloc ?_ _) | (with_reducible refine Grew.drew ?_) | (with_reducible refine Grew.drewN ?_ _) | (with_reducible refine Grew.setRow ?_ (by first | (simp; done) | (simp; omega) | omega) _) | (with_reducible refine Grew.setCell ?_ (by first | (simp; done) | (simp; omega) | omega) _) | ((with_reducible apply Grew.trans); rotate_left; (with_reducible assumption)) | ((with_reducible apply Grew.turn); rotate_left; (with_reducible assumption); (focus (intro i hi; first | omega | (simp at hi; omega)))) | fail)⟩
    · have HF := Lib.hid (show badR t (f, n) = false from HB.out.trans (by simp [a1, a2]))
      clear HB
      go_enter Try.func81, Try.ntmps81
      go_wp2_with fail
      go_ret
      exact ⟨ret_bool (by rw [HF.out]), by (repeat' first | (with_reducible exact Grew.refl _) | (with_reducible assumption) | (with_reducible refine Grew.alloc ?_ _) | (with_reducible refine Grew.drew ?_) | (with_reducible refine Grew.drewN ?_ _) | (with_reducible refine Grew.setRow ?_ (by first | (simp; done) | (simp; omega) | omega) _) | (with_reducible refine Grew.setCell ?_ (by first | (simp; done) | (simp; omega) | omega) _) | ((with_reducible apply Grew.trans); rotate_left; (with_reducible assumption)) | ((with_reducible apply Grew.turn); rotate_left; (with_reducible assumption); (focus (intro i hi; first | omega | (simp at hi; omega)))) | fail)⟩
def IdxR (l : List (Int × Int)) (t : Int) (e : Ending) : Prop := (∃ i : Nat, e = .returned (.int .i64 (i : Int)) ∧ i < l.length ∧ l.any (badR t) = true) ∨ (e = .returned (.int .i64 (-1)) ∧ l.any (badR t) = false)
section
variable (A : Option Addr) (c : Nat) (l : List (Int × Int)) (t : Int) (g1 g2 : Nat) (w : World)
set_option maxRecDepth 100000 in
set_option maxHeartbeats 1000000 in
theorem idxf_any (h1 : Blk w g1 3 #[.int .i64 (ttS t)]) (h2 : Blk w g2 3 #[.int .i64 t]) (hr : RunsAt w w.heap.size A l) (hl : l.length ≤ 100000) (hs : ∀ r ∈ l, 0 ≤ r.1 ∧ 0 ≤ r.2 ∧ r.1 + r.2 ≤ 128) :
    Calls Try.prog 104 #[.slice A l.length c, .func (.func 81) #[] #[.pointer (some ⟨g1, 0, none⟩), .pointer (some ⟨g2, 0, none⟩)]] w fun e w' => IdxR l t e ∧ Grew w w' := by
  have HR := Lib.hid hr
  have HS := Lib.hid hs
  have H1 := Lib.hid h1
  have H2 := Lib.hid h2
  clear hr hs h1 h2
  go_enter Try.func104, Try.ntmps104
  go_wp2_with fail
  go_loopg [8] l.length (fun gk i wr => ∃ k : Nat, k ≤ l.length ∧ gk = l.length - k ∧ i = .int .i64 k ∧ (∀ j (hj : j < l.length), j < k → badR t l[j] = false) ∧ Grew w wr)
  case atStart => exact ⟨0, by omega, by omega, rfl, fun j _ h => by omega, Grew.refl _⟩
  case round =>
    obtain ⟨k, hk, hgk, rfl, hall, hg⟩ := hrel
    have HGK := Lib.hid hgk
    have HA := Lib.hid hall
    have HG := Lib.hid hg
    clear hgk hall
    by_cases hlt : k < l.length
    · obtain ⟨b, off, f, n, rfl, hb, hv, hok, c0, c1⟩ := (HR.out.keep (Nat.le_refl _) hg).at_ hlt
      have hsm := HS.out l[k] (List.getElem_mem hlt)
      rw [hv] at hsm
      simp only at hsm
      have HV := Lib.hid hv
      have HB := Lib.hid (bad1_any t f n g1 g2 wr (H1.out.grew hg) (H2.out.grew hg) (by omega) (by omega))
      clear hv hok
      go_wp2_with fail
      refine HB.out.mono ?_
      rintro e w3 ⟨rfl, g3⟩
      cases hbd : badR t (f, n) with
      | true =>
        have HIN := Lib.hid (show l.any (badR t) = true from by rw [List.any_eq_true]; exact ⟨l[k], List.getElem_mem hlt, by rw [HV.out]; exact hbd⟩)
        clear hbd
        go_wp2_with fail
        go_ret
        exact ⟨.inl ⟨k, rfl, hlt, HIN.out⟩, HG.out.trans g3⟩
      | false =>
        have HN := Lib.hid (show ∀ j (hj : j < l.length), j < k + 1 → badR t l[j] = false from fun j hj hjk => by
          by_cases hjk' : j = k
          · subst hjk'; rw [HV.out]; exact hbd
          · exact HA.out j hj (by omega))
        clear hbd
        go_wp2_with fail
        go_roundg (l.length - (k + 1))
        case measure => rw [HGK.out]; omega
        case rel => exact ⟨k + 1, by omega, by omega, by go_num, HN.out, HG.out.trans g3⟩
    · have HN := Lib.hid (show l.any (badR t) = false from by
        rw [List.any_eq_false]
        intro x hx
        obtain ⟨j, hj, rfl⟩ := List.getElem_of_mem hx
        rw [HA.out j hj (by omega)]
        simp)
      go_wp2_with fail
      go_ret
      exact ⟨.inr ⟨rfl, HN.out⟩, HG.out⟩
set_option maxRecDepth 100000 in
theorem hasf_any (h1 : Blk w g1 3 #[.int .i64 (ttS t)]) (h2 : Blk w g2 3 #[.int .i64 t]) (hr : RunsAt w w.heap.size A l) (hl : l.length ≤ 100000) (hs : ∀ r ∈ l, 0 ≤ r.1 ∧ 0 ≤ r.2 ∧ r.1 + r.2 ≤ 128) :
    Calls Try.prog 80 #[.slice A l.length c, .func (.func 81) #[] #[.pointer (some ⟨g1, 0, none⟩), .pointer (some ⟨g2, 0, none⟩)]] w fun e w' => e = .returned (.bool (l.any (badR t))) ∧ Grew w w' := by
  have HC := Lib.hid (idxf_any A c l t g1 g2 w h1 h2 hr hl hs)
  clear h1 h2 hr hs
  go_enter Try.func80, Try.ntmps80
  go_wp2_with fail
  refine HC.out.mono ?_
  rintro e w1 ⟨hi, g1⟩
  rcases hi with ⟨i, rfl, hil, he⟩ | ⟨rfl, he⟩
  · have HE := Lib.hid he
    have hi0 : (0 : Int) ≤ (i : Int) := by omega
    clear he
    go_wp2_with fail
    go_ret
    exact ⟨ret_bool (by rw [HE.out]), g1⟩
  · have HE := Lib.hid he
    clear he
    go_wp2_with fail
    go_ret
    exact ⟨ret_bool (by rw [HE.out]), g1⟩
end
set_option maxRecDepth 100000 in
theorem cond5_any (A : Option Addr) (c : Nat) (l : Lab) (t : Int) (g g1 g2 : Nat) (w : World) (h : LabAt w A c l) (hs : l.ext.length ≤ 100000) (hj : jnB l = true) (hb : Blk w g 24 #[.int .i64 l.id, .int .i64 l.unit, .string l.name, .string l.note, .slice A l.ext.length c]) (h1 : Blk w g1 3 #[.int .i64 (ttS t)]) (h2 : Blk w g2 3 #[.int .i64 t]) :
    Calls Try.prog 79 #[.pointer (some ⟨g, 0, none⟩), .pointer (some ⟨g1, 0, none⟩), .pointer (some ⟨g2, 0, none⟩)] w fun e w' => e = .returned (.bool (inB l t)) ∧ Grew w w' := by
  have hl := hb.lt
  have x4 := hb.cell 4
  have HC := Lib.hid (hasf_any A c l.ext t g1 g2 w h1 h2 h.runs hs (jn_bd l hj))
  have HE := Lib.hid (show inB l t = !(l.ext.any (badR t)) from rfl)
  clear h hj hb h1 h2
  go_enter Try.func79, Try.ntmps79
  go_wp2_with fail
  refine HC.out.mono ?_
  rintro e w1 ⟨rfl, g1⟩
  cases hx : l.ext.any (badR t) with
  | true =>
    have HX := Lib.hid hx
    clear hx
    go_wp2_with fail
    go_ret
    exact ⟨ret_bool (by rw [HE.out, HX.out]; rfl), g1⟩
  | false =>
    have HX := Lib.hid hx
    clear hx
    go_wp2_with fail
    go_ret
    exact ⟨ret_bool (by rw [HE.out, HX.out]; rfl), g1⟩
end Go.Proofs.Ytnlaogneceanoaa
namespace Go.Proofs.Ytnlaogneceanoaa
set_option linter.unusedVariables false
set_option linter.unusedSimpArgs false
set_option linter.unusedSectionVars false
open Go.RowKit
set_option maxRecDepth 100000 in
set_option maxHeartbeats 4000000 in
theorem valid_lab (A : Option Addr) (c : Nat) (l : Lab) (t : Int) (w : World) (h : LabAt w A c l) (hs : l.ext.length ≤ 100000) :
    Calls Try.prog 43 #[.agg #[.int .i64 l.id, .int .i64 l.unit, .string l.name, .string l.note, .slice A l.ext.length c], .int .i64 t] w fun e w' => e = .returned (.bool (validL l t)) ∧ Grew w w' := by
  have HL := Lib.hid h
  have HF := Lib.hid (valid_false l t)
  have HT := Lib.hid (valid_true l t)
  have hns := h.name
  have hts := h.note
  clear h
  go_enter Try.func43, Try.ntmps43
  go_wp2_with fail
  refine (table_any _ _).mono ?_
  rintro e w1 ⟨rfl, rfl⟩
  go_wp2_with fail
  have HB1 := Lib.hid ((((Blk.new w 24 #[.int .i64 l.id, .int .i64 l.unit, .string l.name, .string l.note, .slice A l.ext.length c] rfl).alloc (.cells #[.int .i64 t] 3)).alloc (.cells #[.int .i64 (ttS t)] 3)).alloc (.cells #[.func (.func 72) #[] #[.pointer (some ⟨w.heap.size + 1, 0, none⟩)], .func (.func 73) #[] #[.pointer (some ⟨w.heap.size, 0, none⟩)], .func (.func 74) #[] #[.pointer (some ⟨w.heap.size, 0, none⟩)], .func (.func 75) #[] #[.pointer (some ⟨w.heap.size, 0, none⟩)], .func (.func 76) #[] #[.pointer (some ⟨w.heap.size, 0, none⟩)], .func (.func 79) #[] #[.pointer (some ⟨w.heap.size, 0, none⟩), .pointer (some ⟨w.heap.size + 1 + 1, 0, none⟩), .pointer (some ⟨w.heap.size + 1, 0, none⟩)]] 25))
  have HB2 := Lib.hid (((Blk.new (w.alloc (.cells #[.int .i64 l.id, .int .i64 l.unit, .string l.name, .string l.note, .slice A l.ext.length c] 24)) 3 #[.int .i64 t] (n := w.heap.size + 1) (by simp)).alloc (.cells #[.int .i64 (ttS t)] 3)).alloc (.cells #[.func (.func 72) #[] #[.pointer (some ⟨w.heap.size + 1, 0, none⟩)], .func (.func 73) #[] #[.pointer (some ⟨w.heap.size, 0, none⟩)], .func (.func 74) #[] #[.pointer (some ⟨w.heap.size, 0, none⟩)], .func (.func 75) #[] #[.pointer (some ⟨w.heap.size, 0, none⟩)], .func (.func 76) #[] #[.pointer (some ⟨w.heap.size, 0, none⟩)], .func (.func 79) #[] #[.pointer (some ⟨w.heap.size, 0, none⟩), .pointer (some ⟨w.heap.size + 1 + 1, 0, none⟩), .pointer (some ⟨w.heap.size + 1, 0, none⟩)]] 25))
  have HB3 := Lib.hid ((Blk.new ((w.alloc (.cells #[.int .i64 l.id, .int .i64 l.unit, .string l.name, .string l.note, .slice A l.ext.length c] 24)).alloc (.cells #[.int .i64 t] 3)) 3 #[.int .i64 (ttS t)] (n := w.heap.size + 1 + 1) (by simp)).alloc (.cells #[.func (.func 72) #[] #[.pointer (some ⟨w.heap.size + 1, 0, none⟩)], .func (.func 73) #[] #[.pointer (some ⟨w.heap.size, 0, none⟩)], .func (.func 74) #[] #[.pointer (some ⟨w.heap.size, 0, none⟩)], .func (.func 75) #[] #[.pointer (some ⟨w.heap.size, 0, none⟩)], .func (.func 76) #[] #[.pointer (some ⟨w.heap.size, 0, none⟩)], .func (.func 79) #[] #[.pointer (some ⟨w.heap.size, 0, none⟩), .pointer (some ⟨w.heap.size + 1 + 1, 0, none⟩), .pointer (some ⟨w.heap.size + 1, 0, none⟩)]] 25))
  have HB4 := Lib.hid (Blk.new (((w.alloc (.cells #[.int .i64 l.id, .int .i64 l.unit, .string l.name, .string l.note, .slice A l.ext.length c] 24)).alloc (.cells #[.int .i64 t] 3)).alloc (.cells #[.int .i64 (ttS t)] 3)) 25 #[.func (.func 72) #[] #[.pointer (some ⟨w.heap.size + 1, 0, none⟩)], .func (.func 73) #[] #[.pointer (some ⟨w.heap.size, 0, none⟩)], .func (.func 74) #[] #[.pointer (some ⟨w.heap.size, 0, none⟩)], .func (.func 75) #[] #[.pointer (some ⟨w.heap.size, 0, none⟩)], .func (.func 76) #[] #[.pointer (some ⟨w.heap.size, 0, none⟩)], .func (.func 79) #[] #[.pointer (some ⟨w.heap.size, 0, none⟩), .pointer (some ⟨w.heap.size + 1 + 1, 0, none⟩), .pointer (some ⟨w.heap.size + 1, 0, none⟩)]] (n := w.heap.size + 1 + 1 + 1) (by simp))
  have HG0 := Lib.hid ((((Grew.refl w).alloc (.cells #[.int .i64 l.id, .int .i64 l.unit, .string l.name, .string l.note, .slice A l.ext.length c] 24)).alloc (.cells #[.int .i64 t] 3)).alloc (.cells #[.int .i64 (ttS t)] 3) |>.alloc (.cells #[.func (.func 72) #[] #[.pointer (some ⟨w.heap.size + 1, 0, none⟩)], .func (.func 73) #[] #[.pointer (some ⟨w.heap.size, 0, none⟩)], .func (.func 74) #[] #[.pointer (some ⟨w.heap.size, 0, none⟩)], .func (.func 75) #[] #[.pointer (some ⟨w.heap.size, 0, none⟩)], .func (.func 76) #[] #[.pointer (some ⟨w.heap.size, 0, none⟩)], .func (.func 79) #[] #[.pointer (some ⟨w.heap.size, 0, none⟩), .pointer (some ⟨w.heap.size + 1 + 1, 0, none⟩), .pointer (some ⟨w.heap.size + 1, 0, none⟩)]] 25))
  obtain ⟨w0, hw0⟩ : ∃ w0, w0 = ((((w.alloc (.cells #[.int .i64 l.id, .int .i64 l.unit, .string l.name, .string l.note, .slice A l.ext.length c] 24)).alloc (.cells #[.int .i64 t] 3)).alloc (.cells #[.int .i64 (ttS t)] 3)).alloc (.cells #[.func (.func 72) #[] #[.pointer (some ⟨w.heap.size + 1, 0, none⟩)], .func (.func 73) #[] #[.pointer (some ⟨w.heap.size, 0, none⟩)], .func (.func 74) #[] #[.pointer (some ⟨w.heap.size, 0, none⟩)], .func (.func 75) #[] #[.pointer (some ⟨w.heap.size, 0, none⟩)], .func (.func 76) #[] #[.pointer (some ⟨w.heap.size, 0, none⟩)], .func (.func 79) #[] #[.pointer (some ⟨w.heap.size, 0, none⟩), .pointer (some ⟨w.heap.size + 1 + 1, 0, none⟩), .pointer (some ⟨w.heap.size + 1, 0, none⟩)]] 25)) := ⟨_, rfl⟩
  rw [← hw0] at HB1 HB2 HB3 HB4 HG0 ⊢
  clear hw0
  go_loopg [20] 6 (fun gk i wr => ∃ k : Nat, k ≤ 6 ∧ gk = 6 - k ∧ i = .int .i64 k ∧ (∀ j, j < k → condS l t j = true) ∧ Grew w0 wr)
  case atStart => exact ⟨0, by omega, by omega, rfl, fun j h => by omega, Grew.refl _⟩
  case round =>
    obtain ⟨k, hk, hgk, rfl, hall, hg⟩ := hrel
    have HGK := Lib.hid hgk
    have HA := Lib.hid hall
    have HG := Lib.hid hg
    have HL5 := Lib.hid (HL.out.hold (HG0.out.trans hg))
    have b4 := HB4.out.grew hg
    have hb4 := b4.lt
    have HX1 := Lib.hid (HB1.out.grew hg)
    have HX2 := Lib.hid (HB2.out.grew hg)
    have HX3 := Lib.hid (HB3.out.grew hg)
    have HNX := Lib.hid (show condS l t k = true → ∀ j, j < k + 1 → condS l t j = true from fun h j hj => by
      by_cases hjk : j = k
      · rw [hjk]; exact h
      · exact hall j (by omega))
    clear hgk hall hg
    by_cases hlt : k < 6
    · rcases (show k = 0 ∨ k = 1 ∨ k = 2 ∨ k = 3 ∨ k = 4 ∨ k = 5 by omega) with rfl | rfl | rfl | rfl | rfl | rfl
      · have x0 := b4.cell 0
        have HC := Lib.hid (cond0_any (w.heap.size + 1) wr t HX2.out)
        clear b4
        go_wp2_with fail
        refine HC.out.mono ?_
        rintro e w5 ⟨rfl, g5⟩
        cases hx : okT t with
        | false =>
          have HFF := Lib.hid (HF.out 0 hx)
          clear hx
          go_wp2_with fail
          go_ret
          exact ⟨ret_bool (by rw [HFF.out]), (HG0.out.trans HG.out).trans g5⟩
        | true =>
          have HNN := Lib.hid (HNX.out hx)
          clear hx
          go_wp2_with fail
          go_roundg (6 - (0 + 1))
          case measure => rw [HGK.out]; omega
          case rel => exact ⟨0 + 1, by omega, by omega, by go_num, HNN.out, HG.out.trans g5⟩
      · have x0 := b4.cell 1
        have HC := Lib.hid (cond1_any A c l w.heap.size wr HX1.out)
        clear b4
        go_wp2_with fail
        refine HC.out.mono ?_
        rintro e w5 ⟨rfl, g5⟩
        cases hx : idB l with
        | false =>
          have HFF := Lib.hid (HF.out 1 hx)
          clear hx
          go_wp2_with fail
          go_ret
          exact ⟨ret_bool (by rw [HFF.out]), (HG0.out.trans HG.out).trans g5⟩
        | true =>
          have HNN := Lib.hid (HNX.out hx)
          clear hx
          go_wp2_with fail
          go_roundg (6 - (1 + 1))
          case measure => rw [HGK.out]; omega
          case rel => exact ⟨1 + 1, by omega, by omega, by go_num, HNN.out, HG.out.trans g5⟩
      · have x0 := b4.cell 2
        have HC := Lib.hid (cond2_any A c l w.heap.size wr hns hts HX1.out)
        clear b4
        go_wp2_with fail
        refine HC.out.mono ?_
        rintro e w5 ⟨rfl, g5⟩
        cases hx : txB l with
        | false =>
          have HFF := Lib.hid (HF.out 2 hx)
          clear hx
          go_wp2_with fail
          go_ret
          exact ⟨ret_bool (by rw [HFF.out]), (HG0.out.trans HG.out).trans g5⟩
        | true =>
          have HNN := Lib.hid (HNX.out hx)
          clear hx
          go_wp2_with fail
          go_roundg (6 - (2 + 1))
          case measure => rw [HGK.out]; omega
          case rel => exact ⟨2 + 1, by omega, by omega, by go_num, HNN.out, HG.out.trans g5⟩
      · have x0 := b4.cell 3
        have HC := Lib.hid (cond3_any A c l w.heap.size wr (by omega) HX1.out)
        clear b4
        go_wp2_with fail
        refine HC.out.mono ?_
        rintro e w5 ⟨rfl, g5⟩
        cases hx : cnB l with
        | false =>
          have HFF := Lib.hid (HF.out 3 hx)
          clear hx
          go_wp2_with fail
          go_ret
          exact ⟨ret_bool (by rw [HFF.out]), (HG0.out.trans HG.out).trans g5⟩
        | true =>
          have HNN := Lib.hid (HNX.out hx)
          clear hx
          go_wp2_with fail
          go_roundg (6 - (3 + 1))
          case measure => rw [HGK.out]; omega
          case rel => exact ⟨3 + 1, by omega, by omega, by go_num, HNN.out, HG.out.trans g5⟩
      · have x0 := b4.cell 4
        have HC := Lib.hid (cond4_any A c l w.heap.size wr HL5.out hs HX1.out)
        clear b4
        go_wp2_with fail
        refine HC.out.mono ?_
        rintro e w5 ⟨rfl, g5⟩
        cases hx : jnB l with
        | false =>
          have HFF := Lib.hid (HF.out 4 hx)
          clear hx
          go_wp2_with fail
          go_ret
          exact ⟨ret_bool (by rw [HFF.out]), (HG0.out.trans HG.out).trans g5⟩
        | true =>
          have HNN := Lib.hid (HNX.out hx)
          clear hx
          go_wp2_with fail
          go_roundg (6 - (4 + 1))
          case measure => rw [HGK.out]; omega
          case rel => exact ⟨4 + 1, by omega, by omega, by go_num, HNN.out, HG.out.trans g5⟩
      · have x0 := b4.cell 5
        have HC := Lib.hid (cond5_any A c l t w.heap.size (w.heap.size + 1 + 1) (w.heap.size + 1) wr HL5.out hs (HA.out 4 (by omega)) HX1.out HX3.out HX2.out)
        clear b4
        go_wp2_with fail
        refine HC.out.mono ?_
        rintro e w5 ⟨rfl, g5⟩
        cases hx : inB l t with
        | false =>
          have HFF := Lib.hid (HF.out 5 hx)
          clear hx
          go_wp2_with fail
          go_ret
          exact ⟨ret_bool (by rw [HFF.out]), (HG0.out.trans HG.out).trans g5⟩
        | true =>
          have HNN := Lib.hid (HNX.out hx)
          clear hx
          go_wp2_with fail
          go_roundg (6 - (5 + 1))
          case measure => rw [HGK.out]; omega
          case rel => exact ⟨5 + 1, by omega, by omega, by go_num, HNN.out, HG.out.trans g5⟩
    · have HAT := Lib.hid (HT.out (fun j hj => HA.out j (by omega)))
      clear b4
      go_wp2_with fail
      go_ret
      exact ⟨ret_bool (by rw [HAT.out]), HG0.out.trans HG.out⟩
end Go.Proofs.Ytnlaogneceanoaa
namespace Go.Proofs.Ytnlaogneceanoaa
set_option linter.unusedVariables false
set_option linter.unusedSimpArgs false
set_option linter.unusedSectionVars false
open Go.RowKit
def hib (m : Nat) : UInt8 := UInt8.ofNat (m % 128 + 128)
def encF : Nat → Nat → List UInt8
  | 0, n => [UInt8.ofNat n]
  | k + 1, n => if n < 128 then [UInt8.ofNat n] else hib n :: encF k (n / 128)
def enc (n : Nat) : List UInt8 := encF 9 n
end Go.Proofs.Ytnlaogneceanoaa
namespace Go.Proofs.Ytnlaogneceanoaa
set_option linter.unusedVariables false
set_option linter.unusedSimpArgs false
set_option linter.unusedSectionVars false
open Go.RowKit
attribute [local go_sem ↓] Go.wp_at_zero Go.wp_at_succ
theorem equalZ_any (A : Option Addr) (c : Nat) (l : Lab) (w : World) (h : LabAt w A c l) (hl : l.ext.length ≤ 100000) :
    Calls Try.prog 62 #[.agg #[.int .i64 l.id, .int .i64 l.unit, .string l.name, .string l.note, .slice A l.ext.length c], .agg #[.int .i64 0, .int .i64 0, .string ⟨#[]⟩, .string ⟨#[]⟩, .slice none 0 0]] w fun e w' => e = .returned (.bool (eqL l labZ)) ∧ Grew w w' :=
  lequal_any A none c 0 l labZ w h (LabAt.zero w) hl (by simp [labZ])
end Go.Proofs.Ytnlaogneceanoaa
namespace Go.Proofs.Ytnlaogneceanoaa
set_option linter.unusedVariables false
set_option linter.unusedSimpArgs false
set_option linter.unusedSectionVars false
open Go.RowKit
def Whole (s again left : ByteArray) (err : Int) : Prop := (err ≠ 0 ∧ left = ⟨#[]⟩) ∨ (err = 0 ∧ again ++ left = s)
theorem bytes_eq {a b : ByteArray} (h : a.data.toList = b.data.toList) : a = b := by
  apply ByteArray.ext
  exact Array.toList_inj.1 h
theorem eqL_iff (l k : Lab) : eqL l k = true ↔ l = k := by
  obtain ⟨i1, u1, n1, t1, e1⟩ := l
  obtain ⟨i2, u2, n2, t2, e2⟩ := k
  unfold eqL
  simp only [Bool.and_eq_true, beq_iff_eq, decide_eq_true_eq, Lab.mk.injEq]
  constructor
  · rintro ⟨h1, h2, h3, h4, h5⟩
    exact ⟨h1, h2, bytes_eq (by simpa [ByteArray.toList_eq] using h3), bytes_eq (by simpa [ByteArray.toList_eq] using h4), h5⟩
  · rintro ⟨rfl, rfl, rfl, rfl, rfl⟩
    exact ⟨rfl, rfl, rfl, rfl, rfl⟩
end Go.Proofs.Ytnlaogneceanoaa
namespace Go.Proofs.Ytnlaogneceanoaa
set_option linter.unusedVariables false
set_option linter.unusedSimpArgs false
set_option linter.unusedSectionVars false
open Go.RowKit
attribute [local go_sem ↓] Go.wp_at_zero Go.wp_at_succ
def chrC (n : Nat) : Bool := decide (65 ≤ n ∧ n ≤ 90) || decide (48 ≤ n ∧ n ≤ 57)
def NameP (s : ByteArray) : Prop := 1 ≤ s.size ∧ s.size ≤ 8 ∧ (∀ j (hj : j < s.size), chrC s[j].toNat = true) ∧ ∀ _h : 0 < s.size, 65 ≤ s[0].toNat
instance (s : ByteArray) : Decidable (NameP s) := by unfold NameP; exact inferInstance
def nameOk (s : ByteArray) : Bool := decide (NameP s)
theorem nameOk_no {s : ByteArray} (h : ¬ NameP s) : nameOk s = false := decide_eq_false h
theorem nameOk_yes {s : ByteArray} (h : NameP s) : nameOk s = true := decide_eq_true h
theorem chrC_cases (n : Nat) : (chrC n = true ∧ 65 ≤ n ∧ n ≤ 90) ∨ (chrC n = true ∧ 48 ≤ n ∧ n ≤ 57) ∨ (chrC n = false ∧ n < 48) ∨ (chrC n = false ∧ 57 < n ∧ n < 65) ∨ (chrC n = false ∧ 90 < n) := by
  unfold chrC
  by_cases h1 : 65 ≤ n ∧ n ≤ 90
  · exact .inl ⟨by simp [h1], h1⟩
  · by_cases h2 : 48 ≤ n ∧ n ≤ 57
    · exact .inr (.inl ⟨by simp [h2], h2⟩)
    · have e : (decide (65 ≤ n ∧ n ≤ 90) || decide (48 ≤ n ∧ n ≤ 57)) = false := by rw [decide_eq_false h1, decide_eq_false h2]; rfl
      by_cases h3 : n < 48
      · exact .inr (.inr (.inl ⟨e, h3⟩))
      · by_cases h4 : n < 65
        · exact .inr (.inr (.inr (.inl ⟨e, by omega, h4⟩)))
        · exact .inr (.inr (.inr (.inr ⟨e, by omega⟩)))
set_option maxRecDepth 100000 in
set_option maxHeartbeats 1000000 in
theorem validName_any (s : ByteArray) (w : World) (hs : s.size ≤ 9223372036854775807) :
    Calls Try.prog 40 #[.string s] w fun e w' => e = .returned (.bool (nameOk s)) ∧ w = w' := by
  by_cases h0 : s.size < 1
  · have HE := Lib.hid (nameOk_no (s := s) (fun h => by have := h.1; omega))
    go_enter Try.func40, Try.ntmps40
    go_wp2_with fail
    go_ret
    exact ⟨ret_bool (by rw [HE.out]), rfl⟩
  by_cases h8 : s.size > 8
  · have HE := Lib.hid (nameOk_no (s := s) (fun h => by have := h.2.1; omega))
    go_enter Try.func40, Try.ntmps40
    go_wp2_with fail
    go_ret
    exact ⟨ret_bool (by rw [HE.out]), rfl⟩
  have hs1 : 0 < s.size := by omega
  by_cases hc : s[0].toNat < 65
  · have HE := Lib.hid (nameOk_no (s := s) (fun h => by have := h.2.2.2 hs1; omega))
    go_enter Try.func40, Try.ntmps40
    go_wp2_with fail
    go_ret
    exact ⟨ret_bool (by rw [HE.out]), rfl⟩
  go_enter Try.func40, Try.ntmps40
  go_wp2_with fail
  have HC := Lib.hid hc
  clear hc
  go_loopg [20] s.size (fun gk i wr => w = wr ∧ ∃ k : Nat, k ≤ s.size ∧ gk = s.size - k ∧ i = .int .i64 k ∧ ∀ j (hj : j < s.size), j < k → chrC s[j].toNat = true)
  case atStart => exact ⟨rfl, 0, by omega, by omega, rfl, fun j hj h => by omega⟩
  case round =>
    obtain ⟨rfl, k, hk, hgk, rfl, hall⟩ := hrel
    have HGK := Lib.hid hgk
    have HA := Lib.hid hall
    clear hgk hall
    by_cases hlt : k < s.size
    · have HN := Lib.hid (show chrC s[k].toNat = true → ∀ j (hj : j < s.size), j < k + 1 → chrC s[j].toNat = true from fun hz j hj hjk => by
          by_cases hjk' : j = k
          · subst hjk'; exact hz
          · exact HA.out j hj (by omega))
      have HF := Lib.hid (show chrC s[k].toNat = false → nameOk s = false from fun hz => nameOk_no (fun h => by have := h.2.2.1 k hlt; rw [hz] at this; cases this))
      rcases chrC_cases s[k].toNat with ⟨hz, a1, a2⟩ | ⟨hz, a1, a2⟩ | ⟨hz, a1⟩ | ⟨hz, a1, a2⟩ | ⟨hz, a1⟩
      · replace HN := Lib.hid (HN.out hz)
        clear hz HF
        go_wp2_with fail
        go_roundg (s.size - (k + 1))
        case measure => rw [HGK.out]; omega
        case rel => exact ⟨rfl, k + 1, by omega, by omega, by go_num, HN.out⟩
      · replace HN := Lib.hid (HN.out hz)
        clear hz HF
        go_wp2_with fail
        go_roundg (s.size - (k + 1))
        case measure => rw [HGK.out]; omega
        case rel => exact ⟨rfl, k + 1, by omega, by omega, by go_num, HN.out⟩
      · replace HF := Lib.hid (HF.out hz)
        clear hz HN
        go_wp2_with fail
        go_ret
        exact ⟨ret_bool (by rw [HF.out]), rfl⟩
      · replace HF := Lib.hid (HF.out hz)
        clear hz HN
        go_wp2_with fail
        go_ret
        exact ⟨ret_bool (by rw [HF.out]), rfl⟩
      · replace HF := Lib.hid (HF.out hz)
        clear hz HN
        go_wp2_with fail
        go_ret
        exact ⟨ret_bool (by rw [HF.out]), rfl⟩
    · have HE := Lib.hid (show nameOk s = true from nameOk_yes ⟨by omega, by omega, fun j hj => HA.out j hj (by omega), fun _ => by have := HC.out; omega⟩)
      go_wp2_with fail
      go_ret
      exact ⟨ret_bool (by rw [HE.out]), rfl⟩
end Go.Proofs.Ytnlaogneceanoaa
namespace Go.Proofs.Ytnlaogneceanoaa
set_option linter.unusedVariables false
set_option linter.unusedSimpArgs false
set_option linter.unusedSectionVars false
open Go.ChangeShapes Go.WideShapes Go.ChangeAt Go.RowKit Go.Deep
theorem wf_i64 {n : Int} (h : (Lit.int .i64 n).wf = true) : -9223372036854775808 ≤ n ∧ n ≤ 9223372036854775807 := by
  simp [Lit.wf, IntKind.min, IntKind.max, IntKind.signed, IntKind.bits] at h; omega
end Go.Proofs.Ytnlaogneceanoaa
namespace Go.Proofs.Ytnlaogneceanoaa
set_option linter.unusedVariables false
set_option linter.unusedSimpArgs false
set_option linter.unusedSectionVars false
open Go.ChangeShapes Go.WideShapes Go.ChangeAt Go.RowKit Go.Deep
section
variable {H : Type} {enc : TypeId × Value → H} {P : Program} {w : World}
theorem open_listF {α : Type} [Inhabited α] {t e : Nat} {sz fuel : Nat} {v : Value} {x0 : DataW H × List MemPlace} (ht : P.underlying t = some (.slice e)) (hsz : P.cellsOf e = sz) (hpos : 0 < sz) (f : α → List Value) (Pr : α → Prop)
    (hel : ∀ n cs y, cs.length = sz → DataW.trod enc P w 0 (fun _ => true) true n e cs = some y → ∃ a, Pr a ∧ cs = f a)
    (hf : DataW.trod enc P w 0 (fun _ => true) true fuel t [v] = some x0) :
    ∃ A c, ∃ l : List α, v = .slice A l.length c ∧ l.length ≤ c ∧ c ≤ 9223372036854775807 ∧ (∀ a ∈ l, Pr a) ∧ ListAt w w.heap.size sz A (l.map f) := by
  obtain ⟨A, n, c, rfl⟩ : ∃ A n c, v = .slice A n c := by
    rcases open_slice ht hf with ⟨h0, _⟩ | ⟨a, len, cap, m, n', D, Pl, hcs, _⟩
    · exact ⟨none, 0, 0, by injection h0⟩
    · exact ⟨some a, len, cap, by injection hcs⟩
  rcases open_slice ht hf with ⟨h0, _⟩ | ⟨a, len, cap, m, n', D, Pl, hcs, hb, hl, hm, hmm, hx, hi⟩
  · simp only [List.cons.injEq, and_true] at h0
    injection h0 with h1 h2 h3
    subst h1; subst h2; subst h3
    exact ⟨none, 0, [], rfl, by simp, by simp, by simp, fun h => absurd h (by simp)⟩
  · simp only [List.cons.injEq, and_true] at hcs
    injection hcs with h1 h2 h3
    subst h1; subst h2; subst h3
    rw [if_pos rfl] at hmm
    have hlm : n ≤ m := by omega
    have each : ∀ i, i < n → ∃ x : α, Pr x ∧ ∃ cs, cs = f x ∧ cs.length = sz ∧ w.cells? 0 (a.add (i * sz)) sz = some cs := fun i hin => by
      obtain ⟨cs', hc, ht'⟩ := hi i (by omega)
      rw [hsz] at hc
      have hlen := (World.cells?_some hc).2.1
      obtain ⟨x, hp, hcs⟩ := hel n' cs' _ hlen ht'
      exact ⟨x, hp, cs', hcs, hlen, hc⟩
    obtain ⟨g, hg⟩ := choose_lt each
    refine ⟨some a, c, (List.range n).map g, by simp, by simpa using hl, by unfold maxLen at hm; simpa using hm, ?_, fun h0 => ?_⟩
    · intro x hx
      rw [List.mem_map] at hx
      obtain ⟨i, hi', rfl⟩ := hx
      exact (hg i (List.mem_range.1 hi')).1
    · have hn : 0 < n := by simpa using h0
      obtain ⟨_, cs0, hcs0, hlen0, hc0⟩ := hg 0 hn
      have h1 := (World.cells?_some hc0).2.2 0 hpos
      rw [Nat.zero_mul] at h1
      have hv0 : cs0[0]? = some cs0[0] := List.getElem?_eq_getElem (by omega)
      have ha : (a.add 0).add 0 = a := by simp [Addr.add]
      rw [ha, hv0] at h1
      obtain ⟨hlt, hsp⟩ := cell_lt h1
      obtain ⟨b, off, sp⟩ := a
      simp only at hsp hlt
      subst hsp
      refine ⟨b, off, rfl, hlt, fun j cs hj i v hiv => ?_⟩
      have hjn : j < n := by
        rcases Nat.lt_or_ge j n with h | h
        · exact h
        · rw [List.getElem?_eq_none (by simpa using h)] at hj; cases hj
      obtain ⟨_, cs1, hcs1, hlen1, hc1⟩ := hg j hjn
      have hcs : cs = cs1 := by
        simp [List.getElem?_map, List.getElem?_range, hjn] at hj
        rw [← hj, hcs1]
      subst hcs
      have hil : i < sz := by
        rcases Nat.lt_or_ge i cs.length with h | h
        · omega
        · rw [List.getElem?_eq_none h] at hiv; cases hiv
      have h2 := (World.cells?_some hc1).2.2 i hil
      rw [add_plain, add_plain] at h2
      rw [h2, hiv]
end
section
variable {H : Type} {enc : TypeId × Value → H} {w : World}
theorem open_runsF {fuel : Nat} {v : Value} {x0 : DataW H × List MemPlace} (hf : DataW.trod enc Try.prog w 0 (fun _ => true) true fuel 22 [v] = some x0) :
    ∃ A c, ∃ l : List (Int × Int), v = .slice A l.length c ∧ l.length ≤ c ∧ c ≤ 9223372036854775807 ∧ RunsAt w w.heap.size A l := by
  obtain ⟨A, c, l, rfl, h1, h2, h3, h4⟩ := open_listF (α := Int × Int) (sz := 2) Try.underlying22 (by kernel_rfl) (by omega) runC okRun (fun n cs y hlen h => by
      have hf := struct_fields Try.underlying58 (by kernel_rfl) h
      obtain ⟨v0, _, _, e0, f0⟩ := hf 0 _ rfl (by omega)
      obtain ⟨v1, _, _, e1, f1⟩ := hf 1 _ rfl (by omega)
      obtain ⟨n0, hn0, _, w0⟩ := DataW.trod_int Try.underlying3 f0
      obtain ⟨n1, hn1, _, w1⟩ := DataW.trod_int Try.underlying3 f1
      injection hn0 with hn0 _
      injection hn1 with hn1 _
      subst hn0; subst hn1
      have b0 := wf_i64 w0
      have b1 := wf_i64 w1
      refine ⟨(n0, n1), ⟨b0.1, b0.2, b1.1, b1.2⟩, ?_⟩
      match cs, hlen with
      | [x0, x1], _ =>
        simp at e0 e1
        rw [e0, e1]
        rfl) hf
  exact ⟨A, c, l, rfl, h1, h2, h3, h4⟩
set_option maxRecDepth 100000 in
theorem open_labelC {n : Nat} {cs : List Value} {y : DataW H × List MemPlace} (hlen : cs.length = 5) (h : DataW.trod enc Try.prog w 0 (fun _ => true) true n 24 cs = some y) :
    ∃ A c, ∃ l : Lab, cs = [.int .i64 l.id, .int .i64 l.unit, .string l.name, .string l.note, .slice A l.ext.length c] ∧ LabAt w A c l := by
  have hf := struct_fields Try.underlying24 (by kernel_rfl) h
  obtain ⟨v0, _, _, e0, f0⟩ := hf 0 _ rfl (by omega)
  obtain ⟨v1, _, _, e1, f1⟩ := hf 1 _ rfl (by omega)
  obtain ⟨v2, _, _, e2, f2⟩ := hf 2 _ rfl (by omega)
  obtain ⟨v3, _, _, e3, f3⟩ := hf 3 _ rfl (by omega)
  obtain ⟨v4, _, _, e4, f4⟩ := hf 4 _ rfl (by omega)
  obtain ⟨n0, hn0, _, w0⟩ := DataW.trod_int Try.underlying3 f0
  obtain ⟨n1, hn1, _, w1⟩ := DataW.trod_int Try.underlying3 f1
  obtain ⟨n2, hn2, _, w2⟩ := DataW.trod_string Try.underlying9 f2
  obtain ⟨n3, hn3, _, w3⟩ := DataW.trod_string Try.underlying9 f3
  obtain ⟨A, c, ext, rfl, h1, h2, h3⟩ := open_runsF f4
  injection hn0 with hn0 _
  injection hn1 with hn1 _
  injection hn2 with hn2 _
  injection hn3 with hn3 _
  subst hn0; subst hn1; subst hn2; subst hn3
  have b0 := wf_i64 w0
  have b1 := wf_i64 w1
  unfold maxLen at w2 w3
  refine ⟨A, c, ⟨n0, n1, n2, n3, ext⟩, ?_, ⟨b0.1, b0.2, b1.1, b1.2, by simpa using w2, by simpa using w3, h3, h1, h2⟩⟩
  match cs, hlen with
  | [x0, x1, x2, x3, x4], _ =>
    simp at e0 e1 e2 e3 e4
    rw [e0, e1, e2, e3, e4]
set_option maxRecDepth 100000 in
theorem open_label {r : Reach} {b0 : Nat} {v : Value} {d : DataW H} {ps : List MemPlace} (hv : Value.okWide Try.prog w r b0 24 v) (hd : DataW.Trod enc Try.prog w 0 (fun _ => true) true 24 v d ps) :
    ∃ A c, ∃ l : Lab, v = .agg #[.int .i64 l.id, .int .i64 l.unit, .string l.name, .string l.note, .slice A l.ext.length c] ∧ LabAt w A c l := by
  obtain ⟨cs, rfl, hsz⟩ := okWide_struct Try.underlying24 hv
  obtain ⟨fuel, hf⟩ := hd
  obtain ⟨A, c, l, hcs, h⟩ := open_labelC (cs := cs.toList) (by rw [Array.length_toList, hsz]; kernel_rfl) hf
  refine ⟨A, c, l, ?_, h⟩
  congr 1
  exact Array.toList_inj.1 hcs
end
end Go.Proofs.Ytnlaogneceanoaa
namespace Go.Proofs.Ytnlaogneceanoaa
set_option linter.unusedVariables false
set_option linter.unusedSimpArgs false
set_option linter.unusedSectionVars false
open Go.ChangeShapes Go.WideShapes Go.ChangeAt Go.RowKit
section
variable {H : Type} {enc : TypeId × Value → H} {P : Program}
theorem trodAll_stays (hl : laidOutB P = true) {W W' : World} {sp' : Nat → Bool} : ∀ {ts : List TypeId} {vs : List Value} {ds : List (DataW H)} {ps : List MemPlace},
    ts.all (fun t => P.readableRec t && decide (t < P.types.size)) = true →
    DataW.TrodAll enc P W 0 (fun _ => true) true ts vs ds ps → (∀ p ∈ ps, W.sameAt W' p) → (∀ p ∈ ps, sp' p.block = true) → DataW.TrodAll enc P W' 0 sp' true ts vs ds ps := by
  intro ts
  induction ts with
  | nil =>
    intro vs ds ps _ h _ _
    obtain ⟨rfl, rfl, rfl⟩ := trodAll_nil h
    exact rfl
  | cons t ts ih =>
    intro vs ds ps hts h hsame hs
    obtain ⟨v, vs', d, ds', p, q, rfl, rfl, rfl, h1, h2⟩ := trodAll_cons h
    rw [List.all_cons, Bool.and_eq_true, Bool.and_eq_true] at hts
    obtain ⟨⟨ht1, ht2⟩, ht3⟩ := hts
    exact trodAll_cons_mk (WideElems.Trod_stays hl ht1 (by simpa using ht2) h1 (fun x hx => hsame x (List.mem_append_left _ hx)) (fun x hx => hs x (List.mem_append_left _ hx)))
      (ih ht3 h2 (fun x hx => hsame x (List.mem_append_right _ hx)) (fun x hx => hs x (List.mem_append_right _ hx)))
theorem law_post {f : Func} {s : ChangeSpec} {apart fresh handsOn : Bool} {W W' : World} {args : Array Value} {ds gs : List (DataW H)} {before : List MemPlace} {tb : TypeId}
    (hl : laidOutB P = true) (hread : f.params.toList.all (fun t => P.readableRec t && decide (t < P.types.size)) = true) (hrt : f.resultTypes = #[tb]) (htb : P.underlying tb = some .bool) (hvars : s.vars = [])
    (hW : DataW.Whole enc P f.params.toList s.vars apart W args.toList ds gs before) (hfn : s.fn H (ds ++ gs) = { results := [.lit (.bool true)], args := ds }) (hg : Grew W W') :
    s.post enc P f apart fresh handsOn false W args (.bool true) W' := by
  have hlt : ∀ p ∈ before, p.block < W.heap.size := fun p hp => hW.lt p hp
  have hW0 := hW
  obtain ⟨p, q, hA, hV, rfl, hfz, hnd⟩ := hW
  rw [hvars] at hV
  obtain ⟨rfl, rfl⟩ := trodVars_none hV
  rw [List.append_nil] at hlt hW0
  have hA' := trodAll_stays hl (W' := W') (sp' := fun b => decide (b < W.heap.size)) hread hA (fun x hx => hg.same (hlt x hx)) (fun x hx => by simpa using hlt x hx)
  refine ⟨ds, [], p, [], p, [], hW0, ?_, ?_, ?_, ?_, fun h => by cases h⟩
  · rw [hfn, hrt]
    show DataW.TrodAll enc P W' _ (fun _ => false) handsOn [tb] [.bool true] [.lit (.bool true)] []
    exact trodAll_mk1 (shut_bool htb true)
  · rw [hfn]
    exact hA'
  · rw [hfn, hvars]
    exact rfl
  · exact hg.frame _
end
end Go.Proofs.Ytnlaogneceanoaa
namespace Go.Proofs.Ytnlaogneceanoaa
set_option linter.unusedVariables false
set_option linter.unusedSimpArgs false
set_option linter.unusedSectionVars false
open Go.RowKit
attribute [local go_sem ↓] Go.wp_at_zero Go.wp_at_succ
theorem eqL_self (l : Lab) : eqL l l = true := by unfold eqL; simp
theorem fewL_len (l : Lab) (h : fewL l = true) : l.name.size ≤ 100 ∧ l.note.size ≤ 500 ∧ l.ext.length ≤ 30 := by
  unfold fewL at h
  simp only [Bool.and_eq_true, decide_eq_true_eq] at h
  exact ⟨h.1.1, h.1.2, h.2⟩
end Go.Proofs.Ytnlaogneceanoaa
namespace Go.Proofs.Ytnlaogneceanoaa
set_option linter.unusedVariables false
set_option linter.unusedSimpArgs false
set_option linter.unusedSectionVars false
open Go.RowKit
def bestStep (n : Int) (b r : Nat × Nat) : Nat × Nat := if n ≤ (r.2 : Int) ∧ (b.2 = 0 ∨ r.2 < b.2) then r else b
def bestF (n : Int) (l : List (Nat × Nat)) : Nat × Nat := l.foldl (bestStep n) (0, 0)
theorem bestF_snoc (n : Int) (l : List (Nat × Nat)) (k : Nat) (h : k < l.length) : bestF n (l.take (k + 1)) = bestStep n (bestF n (l.take k)) l[k] := by
  unfold bestF; rw [List.take_succ_eq_append_getElem h, List.foldl_append]; rfl
theorem fold_inv {n : Int} (P : Nat × Nat → Prop) : ∀ (l : List (Nat × Nat)) (b : Nat × Nat), P b → (∀ r ∈ l, n ≤ (r.2 : Int) → P r) → P (l.foldl (bestStep n) b) := by
  intro l
  induction l with
  | nil => intro b hb _; exact hb
  | cons r l ih =>
    intro b hb h
    refine ih _ ?_ (fun x hx => h x (List.mem_cons_of_mem _ hx))
    unfold bestStep
    split
    · rename_i hc; exact h r (List.mem_cons_self ..) hc.1
    · exact hb
theorem bestF_inv {n : Int} (P : Nat × Nat → Prop) (l : List (Nat × Nat)) (h0 : P (0, 0)) (h : ∀ r ∈ l, n ≤ (r.2 : Int) → P r) : P (bestF n l) := fold_inv P l _ h0 h
theorem bestF_bd (n : Int) (l : List (Nat × Nat)) (m : Nat) (h : ∀ r ∈ l, r.1 + r.2 ≤ m) : (bestF n l).1 + (bestF n l).2 ≤ m :=
  bestF_inv (fun b => b.1 + b.2 ≤ m) l (Nat.zero_le _) (fun r hr _ => h r hr)
theorem bestF_mem (n : Int) (l : List (Nat × Nat)) : bestF n l = (0, 0) ∨ bestF n l ∈ l ∧ n ≤ ((bestF n l).2 : Int) :=
  bestF_inv (fun b => b = (0, 0) ∨ b ∈ l ∧ n ≤ (b.2 : Int)) l (.inl rfl) (fun r hr h => .inr ⟨hr, h⟩)
/-- The first tracks of the best run of a set. -/
def bestS (S : Nat → Bool) (n : Int) : (Int × Int) × Bool :=
  if n < 1 ∨ (bestF n (normS S)).2 = 0 then ((0, 0), false) else ((((bestF n (normS S)).1 : Int), n), true)
def cntL (l : List (Nat × Nat)) : Nat := (l.map (·.2)).sum
theorem cntL_append (a b : List (Nat × Nat)) : cntL (a ++ b) = cntL a + cntL b := by simp [cntL]
theorem cntL_one (x : Nat × Nat) : cntL [x] = x.2 := by simp [cntL]
theorem cntL_snoc (l : List (Nat × Nat)) (k : Nat) (h : k < l.length) : cntL (l.take (k + 1)) = cntL (l.take k) + l[k].2 := by
  rw [List.take_succ_eq_append_getElem h, cntL_append, cntL_one]
/-- What is taken from runs, one behind the other. -/
def takeR : List (Nat × Nat) → Nat → List (Nat × Nat)
  | [], _ => []
  | r :: l, n => if n = 0 then [] else (r.1, min r.2 n) :: takeR l (n - min r.2 n)
theorem takeR_end (x : Nat × Nat) : ∀ (l : List (Nat × Nat)) (n : Nat), takeR (l ++ [x]) n = takeR l n ++ (if n - cntL l = 0 then [] else [(x.1, min x.2 (n - cntL l))]) := by
  intro l
  induction l with
  | nil => intro n; show takeR [x] n = _; unfold takeR; by_cases h : n = 0 <;> simp [h, cntL, takeR]
  | cons r l ih =>
    intro n
    have e : cntL (r :: l) = r.2 + cntL l := by simp [cntL]
    show takeR (r :: (l ++ [x])) n = takeR (r :: l) n ++ _
    rw [takeR, takeR]
    by_cases h : n = 0
    · rw [if_pos h, if_pos h, if_pos (by omega)]; rfl
    · rw [if_neg h, if_neg h, ih, e, show n - min r.2 n - cntL l = n - (r.2 + cntL l) from by omega]; rfl
theorem takeR_snoc (l : List (Nat × Nat)) (k n : Nat) (h : k < l.length) : takeR (l.take (k + 1)) n = takeR (l.take k) n ++ (if n - cntL (l.take k) = 0 then [] else [(l[k].1, min l[k].2 (n - cntL (l.take k)))]) := by
  rw [List.take_succ_eq_append_getElem h, takeR_end]
theorem takeR_stop (b : List (Nat × Nat)) : ∀ (a : List (Nat × Nat)) (n : Nat), n - cntL a = 0 → takeR (a ++ b) n = takeR a n := by
  intro a
  induction a with
  | nil =>
    intro n h
    have hn : n = 0 := by simpa [cntL] using h
    subst hn
    cases b <;> simp [takeR]
  | cons r l ih =>
    intro n h
    have e : cntL (r :: l) = r.2 + cntL l := by simp [cntL]
    show takeR (r :: (l ++ b)) n = takeR (r :: l) n
    rw [takeR, takeR]
    by_cases h0 : n = 0
    · rw [if_pos h0, if_pos h0]
    · rw [if_neg h0, if_neg h0, ih _ (by omega)]
theorem takeR_bd (m : Nat) : ∀ (l : List (Nat × Nat)) (n : Nat), (∀ r ∈ l, r.1 + r.2 ≤ m) → ∀ r ∈ takeR l n, r.1 + r.2 ≤ m := by
  intro l
  induction l with
  | nil => intro n _ r hr; cases hr
  | cons x l ih =>
    intro n h r hr
    rw [takeR] at hr
    split at hr
    · cases hr
    · rcases List.mem_cons.1 hr with rfl | hr
      · have := h x (List.mem_cons_self ..); show x.1 + min x.2 n ≤ m; omega
      · exact ih _ (fun y hy => h y (List.mem_cons_of_mem _ hy)) r hr
theorem takeR_len : ∀ (l : List (Nat × Nat)) (n : Nat), (takeR l n).length ≤ l.length := by
  intro l
  induction l with
  | nil => intro n; exact Nat.zero_le _
  | cons x l ih =>
    intro n
    rw [takeR]
    split
    · exact Nat.zero_le _
    · rw [List.length_cons, List.length_cons]; have := ih (n - min x.2 n); omega
theorem normTo_asc (S : Nat → Bool) (k : Nat) : (normTo S k).Pairwise (fun a b => a.1 + a.2 < b.1) ∧ ∀ r ∈ normTo S k, 1 ≤ r.2 := by
  induction k with
  | zero => exact ⟨List.Pairwise.nil, fun r hr => by cases hr⟩
  | succ k ih =>
    show (stepN S (normTo S k) k).Pairwise _ ∧ ∀ r ∈ stepN S (normTo S k) k, _
    have hbd := normTo_bd S k
    unfold stepN
    split
    · exact ih
    · split
      · rename_i h1 h2
        rcases normTo_end S k with ⟨_, h⟩ | ⟨i, x, hx, _⟩
        · rw [h h2.1] at h2; cases h2.2
        · rw [hx] at ih ⊢
          have hb : bump (i ++ [x]) = i ++ [(x.1, x.2 + 1)] := by unfold bump; rw [last_getD, last_set]
          rw [hb]
          obtain ⟨ih1, ih2⟩ := ih
          rw [List.pairwise_append] at ih1 ⊢
          refine ⟨⟨ih1.1, List.pairwise_singleton _ _, fun a ha b hb => ?_⟩, fun r hr => ?_⟩
          · rw [List.mem_singleton.1 hb]; exact ih1.2.2 a ha x (List.mem_singleton.2 rfl)
          · rcases List.mem_append.1 hr with hr | hr
            · exact ih2 r (List.mem_append_left _ hr)
            · rw [List.mem_singleton.1 hr]; show 1 ≤ x.2 + 1; omega
      · rename_i h1 h2
        rcases normTo_end S k with ⟨h0, _⟩ | ⟨i, x, hx, hiff⟩
        · rw [h0]
          refine ⟨by rw [List.nil_append]; exact List.pairwise_singleton _ _, fun r hr => ?_⟩
          rw [List.nil_append] at hr
          rw [List.mem_singleton.1 hr]; exact Nat.le_refl _
        · rw [hx] at ih hbd ⊢
          obtain ⟨ih1, ih2⟩ := ih
          have hxb := hbd x (List.mem_append_right _ (List.mem_singleton.2 rfl))
          have hne : x.1 + x.2 ≠ k := fun e => h2 (hiff.1 e)
          refine ⟨List.pairwise_append.2 ⟨ih1, List.pairwise_singleton _ _, fun a ha b hb => ?_⟩, fun r hr => ?_⟩
          · rw [List.mem_singleton.1 hb]
            show a.1 + a.2 < k
            rcases List.mem_append.1 ha with ha | ha
            · have := (List.pairwise_append.1 ih1).2.2 a ha x (List.mem_singleton.2 rfl)
              omega
            · rw [List.mem_singleton.1 ha]; omega
          · rcases List.mem_append.1 hr with hr | hr
            · exact ih2 r hr
            · rw [List.mem_singleton.1 hr]; exact Nat.le_refl _
/-- The runs by decreasing size, and those of one size in their order. -/
def sortS (l : List (Nat × Nat)) : List (Nat × Nat) := (List.range 128).flatMap fun i => l.filter fun r => r.2 == 128 - i
theorem mem_sortS (l : List (Nat × Nat)) (h : ∀ r ∈ l, 1 ≤ r.2 ∧ r.2 ≤ 128) (r : Nat × Nat) : r ∈ sortS l ↔ r ∈ l := by
  unfold sortS
  rw [List.mem_flatMap]
  constructor
  · rintro ⟨i, _, hr⟩; exact (List.mem_filter.1 hr).1
  · intro hr
    have := h r hr
    exact ⟨128 - r.2, List.mem_range.2 (by omega), List.mem_filter.2 ⟨hr, by rw [beq_iff_eq]; omega⟩⟩
/-- Which run comes first. -/
def ltR (a b : Nat × Nat) : Prop := b.2 < a.2 ∨ a.2 = b.2 ∧ a.1 < b.1
theorem sortS_sorted (l : List (Nat × Nat)) (h : l.Pairwise (fun a b => a.1 < b.1)) : (sortS l).Pairwise ltR := by
  unfold sortS
  rw [List.flatMap_def, List.pairwise_flatten]
  refine ⟨fun x hx => ?_, ?_⟩
  · obtain ⟨i, _, rfl⟩ := List.mem_map.1 hx
    refine (List.Pairwise.imp_of_mem ?_ (h.filter _))
    intro a b ha hb hab
    have h1 := (List.mem_filter.1 ha).2
    have h2 := (List.mem_filter.1 hb).2
    rw [beq_iff_eq] at h1 h2
    exact .inr ⟨by omega, hab⟩
  · rw [List.pairwise_map]
    refine List.Pairwise.imp_of_mem ?_ (List.pairwise_lt_range (n := 128))
    intro i j hi hj hij a ha b hb
    have h1 := (List.mem_filter.1 ha).2
    have h2 := (List.mem_filter.1 hb).2
    rw [beq_iff_eq] at h1 h2
    have := List.mem_range.1 hi
    have := List.mem_range.1 hj
    exact .inl (by omega)
theorem ltR_asymm {a b : Nat × Nat} (h : ltR a b) (h' : ltR b a) : False := by
  unfold ltR at h h'; omega
theorem sorted_one : ∀ (a b : List (Nat × Nat)), a.Perm b → a.Pairwise ltR → b.Pairwise ltR → a = b := by
  intro a
  induction a with
  | nil => intro b hp _ _; exact hp.nil_eq
  | cons x a ih =>
    intro b hp ha hb
    cases b with
    | nil => exact absurd hp.length_eq (by simp)
    | cons y b =>
      have hxy : x = y := by
        have h1 : x ∈ y :: b := hp.subset (List.mem_cons_self ..)
        have h2 : y ∈ x :: a := hp.symm.subset (List.mem_cons_self ..)
        rcases List.mem_cons.1 h1 with h1 | h1
        · exact h1
        · rcases List.mem_cons.1 h2 with h2 | h2
          · exact h2.symm
          · exact (ltR_asymm ((List.pairwise_cons.1 ha).1 y h2) ((List.pairwise_cons.1 hb).1 x h1)).elim
      subst hxy
      rw [ih b ((List.perm_cons x).1 hp) (List.pairwise_cons.1 ha).2 (List.pairwise_cons.1 hb).2]
theorem nodup_asc {l : List (Nat × Nat)} (h : l.Pairwise (fun a b => a.1 < b.1)) : l.Nodup :=
  List.Pairwise.imp (fun hab e => by rw [e] at hab; omega) h
theorem sorted_nodup {l : List (Nat × Nat)} (h : l.Pairwise ltR) : l.Nodup :=
  List.Pairwise.imp (fun hab e => by rw [e] at hab; exact ltR_asymm hab hab) h
theorem sortS_perm (l : List (Nat × Nat)) (h : ∀ r ∈ l, 1 ≤ r.2 ∧ r.2 ≤ 128) (ha : l.Pairwise (fun a b => a.1 < b.1)) : l.Perm (sortS l) :=
  (List.perm_ext_iff_of_nodup (nodup_asc ha) (sorted_nodup (sortS_sorted l ha))).2 (fun r => (mem_sortS l h r).symm)
theorem normS_asc (S : Nat → Bool) : (normS S).Pairwise (fun a b => a.1 < b.1) :=
  List.Pairwise.imp (fun h => by omega) (normTo_asc S 128).1
theorem normS_cnt (S : Nat → Bool) : ∀ r ∈ normS S, 1 ≤ r.2 ∧ r.2 ≤ 128 := fun r hr => ⟨(normTo_asc S 128).2 r hr, by have := normS_bd S r hr; omega⟩
/-- A sorted order of the runs of a set is the one that is meant. -/
theorem sort_is (S : Nat → Bool) (d : List (Nat × Nat)) (hp : d.Perm (normS S)) (hs : ∀ i j (hi : i < d.length) (hj : j < d.length), i < j → ¬ ltR d[j] d[i]) : d = sortS (normS S) := by
  refine sorted_one _ _ (hp.trans (sortS_perm _ (normS_cnt S) (normS_asc S))) ?_ (sortS_sorted _ (normS_asc S))
  have hn : d.Nodup := (hp.nodup_iff).2 (nodup_asc (normS_asc S))
  have hd : d.Pairwise (fun a b => a.1 ≠ b.1) := by
    have h1 : (normS S).Pairwise (fun a b => a.1 ≠ b.1) := List.Pairwise.imp (fun h => by omega) (normS_asc S)
    exact (hp.pairwise_iff (fun {a b} h e => h e.symm)).2 h1
  rw [List.pairwise_iff_getElem] at hd ⊢
  intro i j hi hj hij
  have h1 := hd i j hi hj hij
  have h2 := hs i j hi hj hij
  unfold ltR at h2 ⊢
  omega
end Go.Proofs.Ytnlaogneceanoaa
