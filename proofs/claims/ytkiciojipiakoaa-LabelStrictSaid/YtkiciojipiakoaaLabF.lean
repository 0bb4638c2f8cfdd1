/- Chapter 7: the reference's Valid. -/
import Derived.Test.YtkiciojipiakoaaLabE
namespace Go.Proofs.Ytkiciojipiakoaa
set_option linter.unusedVariables false
set_option linter.unusedSimpArgs false
set_option linter.unusedSectionVars false
open Go.RowKit
attribute [local go_sem ↓] Go.wp_at_zero Go.wp_at_succ
def rokR (t : Int) (r : Int × Int) : Prop := ttS t ≤ r.1 ∧ r.1 < t ∧ 1 ≤ r.2 ∧ r.2 ≤ t - r.1
theorem stepJ_pos (acc : List (Nat × Nat)) (r : Nat × Nat) (h : ∀ x ∈ acc, 0 < x.2) : ∀ x ∈ stepJ acc r, 0 < x.2 := by
  intro x hx
  unfold stepJ at hx
  split at hx
  · exact h x hx
  · rename_i hr
    split at hx
    · rcases List.mem_or_eq_of_mem_set hx with hx | rfl
      · exact h x hx
      · show 0 < _ + r.2
        omega
    · rcases List.mem_append.1 hx with hx | hx
      · exact h x hx
      · rw [List.mem_singleton.1 hx]
        omega
theorem joinS_pos (l : List (Int × Int)) : ∀ x ∈ joinS l, 0 < x.2 := by
  have key : ∀ (l : List (Int × Int)) (acc : List (Nat × Nat)), (∀ x ∈ acc, 0 < x.2) → ∀ x ∈ l.foldl (fun acc x => stepJ acc (clipS x)) acc, 0 < x.2 := by
    intro l
    induction l with
    | nil => intro acc h; exact h
    | cons r l ih => intro acc h; exact ih _ (stepJ_pos acc _ h)
  exact key l [] (by simp)
theorem rok_of (l : Lab) (t : Int) (hj : jnB l = true) (hi : inB l t = true) : ∀ r ∈ l.ext, rokR t r := by
  intro r hr
  have h1 : badR t r = false := by
    unfold inB at hi
    rw [Bool.not_eq_true', List.any_eq_false] at hi
    simpa using hi r hr
  have h2 : ¬ (r.1 < ttS t) ∧ ¬ (t < r.1 + r.2) := by
    unfold badR at h1
    simpa using h1
  unfold jnB at hj
  rw [Bool.and_eq_true, decide_eq_true_eq] at hj
  rw [← hj.1] at hr
  obtain ⟨x, hx, rfl⟩ := List.mem_map.1 hr
  have := joinS_pos l.ext x hx
  simp only at h2
  unfold rokR
  simp only
  omega
theorem in_of_rok (l : Lab) (t : Int) (h : ∀ r ∈ l.ext, rokR t r) : inB l t = true := by
  unfold inB
  rw [Bool.not_eq_true', List.any_eq_false]
  intro r hr
  have := h r hr
  unfold rokR at this
  unfold badR
  simp
  omega
theorem valid_norok (l : Lab) (t : Int) (r : Int × Int) (hr : r ∈ l.ext) (h : ¬ rokR t r) : validL l t = false := by
  cases hj : jnB l with
  | false => exact valid_false l t 4 hj
  | true =>
    cases hi : inB l t with
    | false => exact valid_false l t 5 hi
    | true => exact absurd (rok_of l t hj hi r hr) h
theorem valid_jn (l : Lab) (t : Int) (h0 : okT t = true) (h1 : idB l = true) (h2 : txB l = true) (h3 : cnB l = true) (h : ∀ r ∈ l.ext, rokR t r) : validL l t = jnB l := by
  unfold validL
  rw [h0, h1, h2, h3, in_of_rok l t h]
  simp
section
variable (A : Option Addr) (c : Nat) (l : Lab) (t : Int) (w : World)
set_option maxRecDepth 100000 in
set_option maxHeartbeats 4000000 in
/-- What stands behind the first test. -/
theorem rvalid_or (YES : ∀ (ho : okT t = true) (a1 : 1 ≤ l.id) (a2 : l.id ≤ 1099511627776) (a3 : 0 ≤ l.unit) (a4 : l.unit ≤ 1099511627776) (a5 : l.name.size ≤ 31) (a6 : l.note.size ≤ 400) (a7 : 1 ≤ l.ext.length) (a8 : l.ext.length ≤ 16), Calls Try.prog 13 #[.agg #[.int .i64 l.id, .int .i64 l.unit, .string l.name, .string l.note, .slice A l.ext.length c], .int .i64 t] w fun e w' => e = .returned (.bool (validL l t)) ∧ Grew w w') (h : LabAt w A c l) (hs : l.ext.length ≤ 100000) (t0 : -9223372036854775808 ≤ t) (t1 : t ≤ 9223372036854775807) :
    Calls Try.prog 13 #[.agg #[.int .i64 l.id, .int .i64 l.unit, .string l.name, .string l.note, .slice A l.ext.length c], .int .i64 t] w fun e w' => e = .returned (.bool (validL l t)) ∧ Grew w w' := by
  have HL := Lib.hid h
  have HB0 := Lib.hid (Blk.new w 24 #[.int .i64 l.id, .int .i64 l.unit, .string l.name, .string l.note, .slice A l.ext.length c] rfl)
  have HG0 := Lib.hid ((Grew.refl w).alloc (.cells #[.int .i64 l.id, .int .i64 l.unit, .string l.name, .string l.note, .slice A l.ext.length c] 24))
  have hi0 := h.id0
  have hi1 := h.id1
  have hu0 := h.unit0
  have hu1 := h.unit1
  have hns := h.name
  have hts := h.note
  have HF0 := Lib.hid (fun (hx : okT t = false) => valid_false l t 0 hx)
  have HF1 := Lib.hid (fun (hx : ¬ (1 ≤ l.id ∧ l.id ≤ 1099511627776 ∧ 0 ≤ l.unit ∧ l.unit ≤ 1099511627776)) => valid_false l t 1 (by show idB l = false; unfold idB; exact decide_eq_false hx))
  have HF2 := Lib.hid (fun (hx : ¬ (l.name.size ≤ 31 ∧ l.note.size ≤ 400)) => valid_false l t 2 (by show txB l = false; unfold txB; exact decide_eq_false hx))
  have HF3 := Lib.hid (fun (hx : ¬ (1 ≤ l.ext.length ∧ l.ext.length ≤ 16)) => valid_false l t 3 (by show cnB l = false; unfold cnB; exact decide_eq_false hx))
  have HNR := Lib.hid (valid_norok l t)
  have HJN := Lib.hid (valid_jn l t)
  have HT1 := Lib.hid (fun (hx : 1 ≤ l.id ∧ l.id ≤ 1099511627776 ∧ 0 ≤ l.unit ∧ l.unit ≤ 1099511627776) => show idB l = true from by unfold idB; exact decide_eq_true hx)
  have HT2 := Lib.hid (fun (hx : l.name.size ≤ 31 ∧ l.note.size ≤ 400) => show txB l = true from by unfold txB; exact decide_eq_true hx)
  have HT3 := Lib.hid (fun (hx : 1 ≤ l.ext.length ∧ l.ext.length ≤ 16) => show cnB l = true from by unfold cnB; exact decide_eq_true hx)
  have HVJ := Lib.hid (show jnB l = (decide (l.ext = ints (joinS l.ext)) && decide (seqS l.ext).Nodup) from by
    unfold jnB; congr 1; simp only [eq_comm])
  clear h
  have HYES := Lib.hid YES
  clear YES
  cases ho : okT t with
  | false =>
    have HE := Lib.hid (HF0.out ho)
    have HO := Lib.hid ho
    clear ho
    go_enter Try.func13, Try.ntmps13
    go_wp2_with fail
    refine (rvalid_any _ _).mono ?_
    rintro e w1 ⟨rfl, rfl⟩
    rw [HO.out]
    go_wp2_with fail
    go_ret
    exact ⟨ret_bool (by rw [HE.out]), HG0.out⟩
  | true =>
    have HO := Lib.hid ho
    clear ho
    by_cases a1 : 1 ≤ l.id
    rotate_left
    · have HE := Lib.hid (HF1.out (by omega))
      go_enter Try.func13, Try.ntmps13
      go_wp2_with fail
      refine (rvalid_any _ _).mono ?_
      rintro e w1 ⟨rfl, rfl⟩
      rw [HO.out]
      go_wp2_with fail
      go_ret
      exact ⟨ret_bool (by rw [HE.out]), HG0.out⟩
    by_cases a2 : l.id ≤ 1099511627776
    rotate_left
    · have HE := Lib.hid (HF1.out (by omega))
      go_enter Try.func13, Try.ntmps13
      go_wp2_with fail
      refine (rvalid_any _ _).mono ?_
      rintro e w1 ⟨rfl, rfl⟩
      rw [HO.out]
      go_wp2_with fail
      go_ret
      exact ⟨ret_bool (by rw [HE.out]), HG0.out⟩
    by_cases a3 : 0 ≤ l.unit
    rotate_left
    · have HE := Lib.hid (HF1.out (by omega))
      go_enter Try.func13, Try.ntmps13
      go_wp2_with fail
      refine (rvalid_any _ _).mono ?_
      rintro e w1 ⟨rfl, rfl⟩
      rw [HO.out]
      go_wp2_with fail
      go_ret
      exact ⟨ret_bool (by rw [HE.out]), HG0.out⟩
    by_cases a4 : l.unit ≤ 1099511627776
    rotate_left
    · have HE := Lib.hid (HF1.out (by omega))
      go_enter Try.func13, Try.ntmps13
      go_wp2_with fail
      refine (rvalid_any _ _).mono ?_
      rintro e w1 ⟨rfl, rfl⟩
      rw [HO.out]
      go_wp2_with fail
      go_ret
      exact ⟨ret_bool (by rw [HE.out]), HG0.out⟩
    by_cases a5 : l.name.size ≤ 31
    rotate_left
    · have HE := Lib.hid (HF2.out (by omega))
      have a5i : ¬ (l.name.size : Int) ≤ 31 := by omega
      go_enter Try.func13, Try.ntmps13
      go_wp2_with fail
      refine (rvalid_any _ _).mono ?_
      rintro e w1 ⟨rfl, rfl⟩
      rw [HO.out]
      go_wp2_with fail
      go_ret
      exact ⟨ret_bool (by rw [HE.out]), HG0.out⟩
    have a5i : (l.name.size : Int) ≤ 31 := by omega
    by_cases a6 : l.note.size ≤ 400
    rotate_left
    · have HE := Lib.hid (HF2.out (by omega))
      have a6i : ¬ (l.note.size : Int) ≤ 400 := by omega
      go_enter Try.func13, Try.ntmps13
      go_wp2_with fail
      refine (rvalid_any _ _).mono ?_
      rintro e w1 ⟨rfl, rfl⟩
      rw [HO.out]
      go_wp2_with fail
      go_ret
      exact ⟨ret_bool (by rw [HE.out]), HG0.out⟩
    have a6i : (l.note.size : Int) ≤ 400 := by omega
    by_cases a7 : 1 ≤ l.ext.length
    rotate_left
    · have HE := Lib.hid (HF3.out (by omega))
      have a7i : ¬ 1 ≤ (l.ext.length : Int) := by omega
      go_enter Try.func13, Try.ntmps13
      go_wp2_with fail
      refine (rvalid_any _ _).mono ?_
      rintro e w1 ⟨rfl, rfl⟩
      rw [HO.out]
      go_wp2_with fail
      go_ret
      exact ⟨ret_bool (by rw [HE.out]), HG0.out⟩
    have a7i : 1 ≤ (l.ext.length : Int) := by omega
    by_cases a8 : l.ext.length ≤ 16
    rotate_left
    · have HE := Lib.hid (HF3.out (by omega))
      have a8i : ¬ (l.ext.length : Int) ≤ 16 := by omega
      go_enter Try.func13, Try.ntmps13
      go_wp2_with fail
      refine (rvalid_any _ _).mono ?_
      rintro e w1 ⟨rfl, rfl⟩
      rw [HO.out]
      go_wp2_with fail
      go_ret
      exact ⟨ret_bool (by rw [HE.out]), HG0.out⟩
    have a8i : (l.ext.length : Int) ≤ 16 := by omega
    exact HYES.out HO.out a1 a2 a3 a4 a5 a6 a7 a8
end
end Go.Proofs.Ytkiciojipiakoaa
