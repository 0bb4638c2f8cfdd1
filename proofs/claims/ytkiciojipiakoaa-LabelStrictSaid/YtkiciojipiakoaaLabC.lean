/- Chapter 7: the conditions of valid labels. -/
import Derived.Test.YtkiciojipiakoaaLabB
import Derived.Test.YtkiciojipiakoaaOrd3
namespace Go.Proofs.Ytkiciojipiakoaa
set_option linter.unusedVariables false
set_option linter.unusedSimpArgs false
set_option linter.unusedSectionVars false
open Go.RowKit
def idB (l : Lab) : Bool := decide (1 ≤ l.id ∧ l.id ≤ 1099511627776 ∧ 0 ≤ l.unit ∧ l.unit ≤ 1099511627776)
def txB (l : Lab) : Bool := decide (l.name.size ≤ 31 ∧ l.note.size ≤ 400)
def cnB (l : Lab) : Bool := decide (1 ≤ l.ext.length ∧ l.ext.length ≤ 16)
def jnB (l : Lab) : Bool := decide (ints (joinS l.ext) = l.ext) && decide (seqS l.ext).Nodup
def badR (t : Int) (r : Int × Int) : Bool := decide (r.1 < ttS t) || decide (t < r.1 + r.2)
def inB (l : Lab) (t : Int) : Bool := !(l.ext.any (badR t))
def condS (l : Lab) (t : Int) : Nat → Bool
  | 0 => okT t
  | 1 => idB l
  | 2 => txB l
  | 3 => cnB l
  | 4 => jnB l
  | _ => inB l t
def validL (l : Lab) (t : Int) : Bool := okT t && (idB l && (txB l && (cnB l && (jnB l && inB l t))))
theorem valid_false (l : Lab) (t : Int) (k : Nat) (h : condS l t k = false) : validL l t = false := by
  unfold validL
  match k with
  | 0 => rw [show okT t = false from h]; rfl
  | 1 => rw [show idB l = false from h]; simp
  | 2 => rw [show txB l = false from h]; simp
  | 3 => rw [show cnB l = false from h]; simp
  | 4 => rw [show jnB l = false from h]; simp
  | k + 5 => rw [show inB l t = false from h]; simp
theorem valid_true (l : Lab) (t : Int) (h : ∀ k, k < 6 → condS l t k = true) : validL l t = true := by
  unfold validL
  rw [show okT t = true from h 0 (by omega), show idB l = true from h 1 (by omega), show txB l = true from h 2 (by omega), show cnB l = true from h 3 (by omega), show jnB l = true from h 4 (by omega), show inB l t = true from h 5 (by omega)]
  rfl
theorem jn_bd (l : Lab) (h : jnB l = true) : ∀ r ∈ l.ext, 0 ≤ r.1 ∧ 0 ≤ r.2 ∧ r.1 + r.2 ≤ 128 := by
  unfold jnB at h
  rw [Bool.and_eq_true, decide_eq_true_eq] at h
  intro r hr
  rw [← h.1] at hr
  obtain ⟨x, hx, rfl⟩ := List.mem_map.1 hr
  have := joinS_bd l.ext x hx
  simp only
  omega
theorem ret_bool2 {a b : Bool} (h : a = b) : Ending.returned (.bool a) = .returned (.bool b) := by rw [h]
section
variable (A : Option Addr) (c : Nat) (l : Lab) (g : Nat) (w : World)
set_option maxRecDepth 100000 in
theorem cond0_any (t : Int) (hb : Blk w g 3 #[.int .i64 t]) :
    Calls Try.prog 30 #[.pointer (some ⟨g, 0, none⟩)] w fun e w' => e = .returned (.bool (okT t)) ∧ Grew w w' := by
  have x0 := hb.cell 0
  have hl := hb.lt
  go_enter Try.func30, Try.ntmps30
  go_wp2_with fail
  refine (tracksOK_any _ _).mono ?_
  rintro e w1 ⟨rfl, rfl⟩
  go_wp2_with fail
  go_ret
  exact ⟨rfl, Grew.refl _⟩
set_option maxRecDepth 100000 in
theorem cond1_any (hb : Blk w g 24 #[.int .i64 l.id, .int .i64 l.unit, .string l.name, .string l.note, .slice A l.ext.length c]) :
    Calls Try.prog 32 #[.pointer (some ⟨g, 0, none⟩)] w fun e w' => e = .returned (.bool (idB l)) ∧ Grew w w' := by
  have x0 := hb.cell 0
  have x1 := hb.cell 1
  have hl := hb.lt
  obtain ⟨id, unit, name, note, ext⟩ := l
  simp only at x0 x1
  have HE := Lib.hid (show idB ⟨id, unit, name, note, ext⟩ = decide (1 ≤ id ∧ id ≤ 1099511627776 ∧ 0 ≤ unit ∧ unit ≤ 1099511627776) from rfl)
  clear hb
  by_cases h1 : 1 ≤ id
  · by_cases h2 : id ≤ 1099511627776
    · by_cases h3 : 0 ≤ unit
      · by_cases h4 : unit ≤ 1099511627776
        · have HF := Lib.hid (show idB ⟨id, unit, name, note, ext⟩ = true from HE.out.trans (by simp [h1, h2, h3, h4]))
          clear HE
          go_enter Try.func32, Try.ntmps32
          go_wp2_with fail
          go_ret
          exact ⟨ret_bool (by rw [HF.out]), Grew.refl _⟩
        · have HF := Lib.hid (show idB ⟨id, unit, name, note, ext⟩ = false from HE.out.trans (by simp [h1, h2, h3, h4]))
          clear HE
          go_enter Try.func32, Try.ntmps32
          go_wp2_with fail
          go_ret
          exact ⟨ret_bool (by rw [HF.out]), Grew.refl _⟩
      · have HF := Lib.hid (show idB ⟨id, unit, name, note, ext⟩ = false from HE.out.trans (by simp [h1, h2, h3]))
        clear HE
        go_enter Try.func32, Try.ntmps32
        go_wp2_with fail
        go_ret
        exact ⟨ret_bool (by rw [HF.out]), Grew.refl _⟩
    · have HF := Lib.hid (show idB ⟨id, unit, name, note, ext⟩ = false from HE.out.trans (by simp [h1, h2]))
      clear HE
      go_enter Try.func32, Try.ntmps32
      go_wp2_with fail
      go_ret
      exact ⟨ret_bool (by rw [HF.out]), Grew.refl _⟩
  · have HF := Lib.hid (show idB ⟨id, unit, name, note, ext⟩ = false from HE.out.trans (by simp [h1]))
    clear HE
    go_enter Try.func32, Try.ntmps32
    go_wp2_with fail
    go_ret
    exact ⟨ret_bool (by rw [HF.out]), Grew.refl _⟩
set_option maxRecDepth 100000 in
theorem cond2_any (hs1 : l.name.size ≤ 9223372036854775807) (hs2 : l.note.size ≤ 9223372036854775807) (hb : Blk w g 24 #[.int .i64 l.id, .int .i64 l.unit, .string l.name, .string l.note, .slice A l.ext.length c]) :
    Calls Try.prog 33 #[.pointer (some ⟨g, 0, none⟩)] w fun e w' => e = .returned (.bool (txB l)) ∧ Grew w w' := by
  have x0 := hb.cell 2
  have x1 := hb.cell 3
  have hl := hb.lt
  obtain ⟨id, unit, name, note, ext⟩ := l
  simp only at x0 x1 hs1 hs2
  have HE := Lib.hid (show txB ⟨id, unit, name, note, ext⟩ = decide (name.size ≤ 31 ∧ note.size ≤ 400) from rfl)
  clear hb
  by_cases h1 : name.size ≤ 31
  · by_cases h2 : note.size ≤ 400
    · have h2i : (note.size : Int) ≤ 400 := by omega
      have HF := Lib.hid (show txB ⟨id, unit, name, note, ext⟩ = true from HE.out.trans (by simp [h1, h2]))
      clear HE
      go_enter Try.func33, Try.ntmps33
      go_wp2_with fail
      go_ret
      exact ⟨ret_bool (by rw [HF.out]), Grew.refl _⟩
    · have h2i : ¬ (note.size : Int) ≤ 400 := by omega
      have HF := Lib.hid (show txB ⟨id, unit, name, note, ext⟩ = false from HE.out.trans (by simp [h1, h2]))
      clear HE
      go_enter Try.func33, Try.ntmps33
      go_wp2_with fail
      go_ret
      exact ⟨ret_bool (by rw [HF.out]), Grew.refl _⟩
  · have HF := Lib.hid (show txB ⟨id, unit, name, note, ext⟩ = false from HE.out.trans (by simp [h1]))
    clear HE
    go_enter Try.func33, Try.ntmps33
    go_wp2_with fail
    go_ret
    exact ⟨ret_bool (by rw [HF.out]), Grew.refl _⟩
set_option maxRecDepth 100000 in
theorem cond3_any (hs : l.ext.length ≤ 1000000000) (hb : Blk w g 24 #[.int .i64 l.id, .int .i64 l.unit, .string l.name, .string l.note, .slice A l.ext.length c]) :
    Calls Try.prog 34 #[.pointer (some ⟨g, 0, none⟩)] w fun e w' => e = .returned (.bool (cnB l)) ∧ Grew w w' := by
  have x1 := hb.cell 4
  have hl := hb.lt
  obtain ⟨id, unit, name, note, ext⟩ := l
  simp only at x1 hs
  have HE := Lib.hid (show cnB ⟨id, unit, name, note, ext⟩ = decide (1 ≤ ext.length ∧ ext.length ≤ 16) from rfl)
  clear hb
  generalize ext.length = n at *
  by_cases h1 : 1 ≤ n
  · have h1i : 1 ≤ (n : Int) := by omega
    by_cases h2 : n ≤ 16
    · have h2i : (n : Int) ≤ 16 := by omega
      have HF := Lib.hid (show cnB ⟨id, unit, name, note, ext⟩ = true from HE.out.trans (by simp [h1, h2]))
      clear HE
      go_enter Try.func34, Try.ntmps34
      go_wp2_with fail
      go_ret
      exact ⟨ret_bool (by rw [HF.out]), Grew.refl _⟩
    · have h2i : ¬ (n : Int) ≤ 16 := by omega
      have HF := Lib.hid (show cnB ⟨id, unit, name, note, ext⟩ = false from HE.out.trans (by simp [h1, h2]))
      clear HE
      go_enter Try.func34, Try.ntmps34
      go_wp2_with fail
      go_ret
      exact ⟨ret_bool (by rw [HF.out]), Grew.refl _⟩
  · have h1i : ¬ 1 ≤ (n : Int) := by omega
    have HF := Lib.hid (show cnB ⟨id, unit, name, note, ext⟩ = false from HE.out.trans (by simp [h1]))
    clear HE
    go_enter Try.func34, Try.ntmps34
    go_wp2_with fail
    go_ret
    exact ⟨ret_bool (by rw [HF.out]), Grew.refl _⟩
end
end Go.Proofs.Ytkiciojipiakoaa
