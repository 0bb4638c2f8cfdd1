/- Chapter 7: numbers of tracks; the table's tracks, slots. -/
import Derived.Test.YtkiciojipiakoaaExtS
namespace Go.Proofs.Ytkiciojipiakoaa
set_option linter.unusedVariables false
set_option linter.unusedSimpArgs false
set_option linter.unusedSectionVars false
open Go.RowKit
def okT (t : Int) : Bool := decide (4 ≤ t ∧ t ≤ 128)
def ttS (t : Int) : Int := if okT t = true then (t + 3) / 4 else 0
def slotsS (t : Int) : Int := max 0 (ttS t - 1)
theorem okT_true {t : Int} (h : okT t = true) : 4 ≤ t ∧ t ≤ 128 := by simpa [okT] using h
theorem okT_false {t : Int} (h : okT t = false) : ¬ (4 ≤ t ∧ t ≤ 128) := by unfold okT at h; exact of_decide_eq_false h
theorem ttS_bd (t : Int) : 0 ≤ ttS t ∧ ttS t ≤ 32 := by
  unfold ttS
  cases h : okT t with
  | true => have := okT_true h; rw [if_pos rfl]; omega
  | false => rw [if_neg (by simp)]; omega
set_option maxRecDepth 100000 in
theorem tracksOK_any (t : Int) (w : World) : Calls Try.prog 31 #[.int .i64 t] w fun e w' => e = .returned (.bool (okT t)) ∧ w = w' := by
  have HO := Lib.hid (show okT t = decide (4 ≤ t ∧ t ≤ 128) from rfl)
  by_cases h1 : 4 ≤ t
  · by_cases h2 : t ≤ 128
    · have HE := Lib.hid (show okT t = true from by rw [HO.out]; simp [h1, h2])
      go_enter Try.func31, Try.ntmps31
      go_wp2
      go_ret
      exact ⟨ret_bool (by rw [HE.out]), rfl⟩
    · have HE := Lib.hid (show okT t = false from by rw [HO.out]; simp [h1, h2])
      go_enter Try.func31, Try.ntmps31
      go_wp2
      go_ret
      exact ⟨ret_bool (by rw [HE.out]), rfl⟩
  · have HE := Lib.hid (show okT t = false from by rw [HO.out]; simp [h1])
    go_enter Try.func31, Try.ntmps31
    go_wp2
    go_ret
    exact ⟨ret_bool (by rw [HE.out]), rfl⟩
set_option maxRecDepth 100000 in
theorem rvalid_any (t : Int) (w : World) : Calls Try.prog 42 #[.int .i64 t] w fun e w' => e = .returned (.bool (okT t)) ∧ w = w' := by
  have HO := Lib.hid (show okT t = decide (4 ≤ t ∧ t ≤ 128) from rfl)
  by_cases h1 : 4 ≤ t
  · by_cases h2 : t ≤ 128
    · have HE := Lib.hid (show okT t = true from by rw [HO.out]; simp [h1, h2])
      go_enter Try.func42, Try.ntmps42
      go_wp2
      go_ret
      exact ⟨ret_bool (by rw [HE.out]), rfl⟩
    · have HE := Lib.hid (show okT t = false from by rw [HO.out]; simp [h1, h2])
      go_enter Try.func42, Try.ntmps42
      go_wp2
      go_ret
      exact ⟨ret_bool (by rw [HE.out]), rfl⟩
  · have HE := Lib.hid (show okT t = false from by rw [HO.out]; simp [h1])
    go_enter Try.func42, Try.ntmps42
    go_wp2
    go_ret
    exact ⟨ret_bool (by rw [HE.out]), rfl⟩
set_option maxRecDepth 100000 in
theorem table_any (t : Int) (w : World) : Calls Try.prog 18 #[.int .i64 t] w fun e w' => e = .returned (.int .i64 (ttS t)) ∧ w = w' := by
  cases h : okT t with
  | true =>
    have HE := Lib.hid h
    obtain ⟨h1, h2⟩ := okT_true h
    have HT := Lib.hid (show ttS t = (t + 3) / 4 from by unfold ttS; rw [if_pos h])
    clear h
    go_enter Try.func18, Try.ntmps18
    go_wp2_with fail
    refine (tracksOK_any _ _).mono ?_
    rintro e w1 ⟨rfl, rfl⟩
    rw [HE.out]
    go_wp2_with fail
    go_ret
    exact ⟨ret_int (by rw [HT.out]), rfl⟩
  | false =>
    have HE := Lib.hid h
    have HT := Lib.hid (show ttS t = 0 from by unfold ttS; rw [if_neg (by rw [h]; simp)])
    clear h
    go_enter Try.func18, Try.ntmps18
    go_wp2_with fail
    refine (tracksOK_any _ _).mono ?_
    rintro e w1 ⟨rfl, rfl⟩
    rw [HE.out]
    go_wp2_with fail
    go_ret
    exact ⟨ret_int (by rw [HT.out]), rfl⟩
set_option maxRecDepth 100000 in
theorem rtable_any (t : Int) (w : World) : Calls Try.prog 20 #[.int .i64 t] w fun e w' => e = .returned (.int .i64 (ttS t)) ∧ w = w' := by
  cases h : okT t with
  | true =>
    have HE := Lib.hid h
    obtain ⟨h1, h2⟩ := okT_true h
    have HT := Lib.hid (show ttS t = (t + 3) / 4 from by unfold ttS; rw [if_pos h])
    clear h
    go_enter Try.func20, Try.ntmps20
    go_wp2_with fail
    refine (rvalid_any _ _).mono ?_
    rintro e w1 ⟨rfl, rfl⟩
    rw [HE.out]
    go_wp2_with fail
    go_ret
    exact ⟨ret_int (by rw [HT.out]), rfl⟩
  | false =>
    have HE := Lib.hid h
    have HT := Lib.hid (show ttS t = 0 from by unfold ttS; rw [if_neg (by rw [h]; simp)])
    clear h
    go_enter Try.func20, Try.ntmps20
    go_wp2_with fail
    refine (rvalid_any _ _).mono ?_
    rintro e w1 ⟨rfl, rfl⟩
    rw [HE.out]
    go_wp2_with fail
    go_ret
    exact ⟨ret_int (by rw [HT.out]), rfl⟩
set_option maxRecDepth 100000 in
theorem slots_any (t : Int) (w : World) : Calls Try.prog 19 #[.int .i64 t] w fun e w' => e = .returned (.int .i64 (slotsS t)) ∧ w = w' := by
  obtain ⟨h0, h1⟩ := ttS_bd t
  have HS := Lib.hid (show slotsS t = max 0 (ttS t - 1) from rfl)
  have HC := Lib.hid (table_any t w)
  generalize ttS t = n at *
  by_cases h : 1 ≤ n
  · go_enter Try.func19, Try.ntmps19
    go_wp2_with fail
    refine HC.out.mono ?_
    rintro e w1 ⟨rfl, rfl⟩
    go_wp2_with fail
    all_goals
      go_ret
      exact ⟨ret_int (by rw [HS.out]; omega), rfl⟩
  · go_enter Try.func19, Try.ntmps19
    go_wp2_with fail
    refine HC.out.mono ?_
    rintro e w1 ⟨rfl, rfl⟩
    go_wp2_with fail
    all_goals
      go_ret
      exact ⟨ret_int (by rw [HS.out]; omega), rfl⟩
set_option maxRecDepth 100000 in
theorem rslots_any (t : Int) (w : World) : Calls Try.prog 21 #[.int .i64 t] w fun e w' => e = .returned (.int .i64 (slotsS t)) ∧ w = w' := by
  obtain ⟨h0, h1⟩ := ttS_bd t
  have HS := Lib.hid (show slotsS t = max 0 (ttS t - 1) from rfl)
  have HC := Lib.hid (rtable_any t w)
  generalize ttS t = n at *
  by_cases h : 1 ≤ n
  · go_enter Try.func21, Try.ntmps21
    go_wp2_with fail
    refine HC.out.mono ?_
    rintro e w1 ⟨rfl, rfl⟩
    go_wp2_with fail
    all_goals
      go_ret
      exact ⟨ret_int (by rw [HS.out]; omega), rfl⟩
  · go_enter Try.func21, Try.ntmps21
    go_wp2_with fail
    refine HC.out.mono ?_
    rintro e w1 ⟨rfl, rfl⟩
    go_wp2_with fail
    all_goals
      go_ret
      exact ⟨ret_int (by rw [HS.out]; omega), rfl⟩
end Go.Proofs.Ytkiciojipiakoaa
