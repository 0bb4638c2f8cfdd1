/- Chapter 7: awake; LabelSlots, LabelValid. -/
import Derived.Test.YtkiciojipiakoaaLabJ
import Derived.Test.YtkiciojipiakoaaLabK
import Derived.Test.YtkiciojipiakoaaLaw
namespace Go.Proofs.Ytkiciojipiakoaa
set_option linter.unusedVariables false
set_option linter.unusedSimpArgs false
set_option linter.unusedSectionVars false
open Go.RowKit
def lab0 : Lab := ⟨5, 2, ⟨#[65]⟩, ⟨#[]⟩, [(4, 2)]⟩
def byt0 : ByteArray := ⟨#[5, 2, 1, 65, 0, 1, 4, 2]⟩
theorem aw_enc : encS lab0 16 = padS 1024 (byt0 ++ ⟨#[0]⟩) := by
  have h1 : okT 16 = true := by decide
  have h2 : eqL lab0 labZ = false := by decide
  have h3 : validL lab0 16 = true := by kernel_rfl
  have h4 : bodyE lab0 ++ runsE lab0.ext = byt0 := by kernel_rfl
  unfold encS
  rw [if_neg (by rw [h2]; simp), if_pos h3, h4]
  exact padS_step 1024 byt0 (by decide)
theorem padS_size (n : Nat) (s : ByteArray) (h : s.size ≤ n) : (padS n s).size = n := by
  unfold padS
  rw [ByteArray.size_append, zeros_size]
  omega
set_option maxRecDepth 100000 in
set_option maxHeartbeats 1000000 in
theorem awake_any (w : World) : Calls Try.prog 10 #[] w fun e w' => e = .returned (.bool true) ∧ Grew w w' := by
  have ga := (Grew.refl w).alloc (.cells #[.int .i64 4, .int .i64 2] 43)
  have hb := Blk.new w 43 #[.int .i64 4, .int .i64 2] rfl
  have hL : LabAt (w.alloc (.cells #[.int .i64 4, .int .i64 2] 43)) (some ⟨w.heap.size, 0, none⟩) 1 lab0 := by
    refine ⟨by decide, by decide, by decide, by decide, by decide, by decide, ⟨by simp [lab0, okRun], fun _ => ⟨w.heap.size, 0, rfl, by simp, fun j cs hj i v hi => ?_⟩⟩, by simp [lab0], by decide⟩
    have hj0 : j = 0 := by
      have := (List.getElem?_eq_some_iff.1 hj).1
      simp [lab0] at this
      omega
    subst hj0
    simp [lab0, runC] at hj
    subst hj
    simp only [Nat.zero_mul, Nat.zero_add]
    rw [hb.cell i]
    simpa using hi
  have HEN := Lib.hid (encode_lab (some ⟨w.heap.size, 0, none⟩) 1 lab0 16 _ hL (by simp [lab0]) (by omega) (by omega))
  obtain ⟨S, hS⟩ : ∃ S, encS lab0 16 = S := ⟨_, rfl⟩
  have hsz : S.size = 1024 := by rw [← hS, aw_enc]; exact padS_size _ _ (by decide)
  have hex : S.extract 0 9 = ⟨#[5, 2, 1, 65, 0, 1, 4, 2, 0]⟩ := by
    rw [← hS, aw_enc]
    unfold padS
    rw [ByteArray.extract_append_eq_left (by decide)]
    rfl
  rw [hS] at HEN
  have hT : ttS 16 = 4 := by decide
  have hSl : slotsS 16 = 3 := by decide
  have HC1 := fun w => Lib.hid (table_any 16 w)
  have HC2 := fun w => Lib.hid (slots_any 16 w)
  rw [hT] at HC1
  rw [hSl] at HC2
  clear hL hS hT hSl hb
  go_enter Try.func10, Try.ntmps10
  go_wp2_with fail
  refine HEN.out.mono ?_
  rintro e w1 ⟨rfl, g1⟩
  go_wp2_with fail
  refine (HC1 _).out.mono ?_
  rintro e w2 ⟨rfl, rfl⟩
  go_wp2_with fail
  refine (HC2 _).out.mono ?_
  rintro e w2 ⟨rfl, rfl⟩
  go_wp2_with fail
  go_ret
  exact ⟨rfl, ga.trans g1⟩
set_option maxRecDepth 100000 in
set_option maxHeartbeats 1000000 in
theorem labelSlots_any (t : Int) (t0 : -9223372036854775808 ≤ t) (t1 : t ≤ 9223372036854775807) (w : World) : Calls Try.prog 4 #[.int .i64 t] w fun e w' => e = .returned (.bool true) ∧ Grew w w' := by
  have HC1 := fun w => Lib.hid (table_any t w)
  have HC2 := fun w => Lib.hid (slots_any t w)
  have HD1 := fun w => Lib.hid (rtable_any t w)
  have HD2 := fun w => Lib.hid (rslots_any t w)
  cases ho : okT t with
  | false =>
    have e1 : ttS t = 0 := by unfold ttS; rw [if_neg (by rw [ho]; simp)]
    have e2 : slotsS t = 0 := by unfold slotsS; rw [e1]; decide
    rw [e1] at HC1 HD1
    rw [e2] at HC2 HD2
    clear ho e1 e2
    go_enter Try.func4, Try.ntmps4
    go_wp2_with fail
    refine (awake_any _).mono ?_
    rintro e w1 ⟨rfl, g1⟩
    go_wp2_with fail
    refine (HC1 _).out.mono ?_
    rintro e w2 ⟨rfl, rfl⟩
    go_wp2_with fail
    refine (HC2 _).out.mono ?_
    rintro e w2 ⟨rfl, rfl⟩
    go_wp2_with fail
    refine (HD1 _).out.mono ?_
    rintro e w2 ⟨rfl, rfl⟩
    go_wp2_with fail
    refine (HD2 _).out.mono ?_
    rintro e w2 ⟨rfl, rfl⟩
    go_wp2_with fail
    go_ret
    exact ⟨rfl, g1⟩
  | true =>
    obtain ⟨h4, h8⟩ := okT_true ho
    obtain ⟨k, hk⟩ : ∃ k, slotsS t = k := ⟨_, rfl⟩
    have e1 : ttS t = (t + 3) / 4 := by unfold ttS; rw [if_pos ho]
    have e2 : ttS t = k + 1 := by rw [← hk]; unfold slotsS; rw [e1]; omega
    have b0 : 0 ≤ k := by omega
    have b1 : k ≤ t - (k + 1) := by omega
    have b2 : t ≤ 4 * (k + 1) := by omega
    have b3 : 4 * (k + 1) < t + 4 := by omega
    have b4 : k ≤ 31 := by omega
    have b5 : 0 ≤ k + 1 ∧ k + 1 ≤ 32 := by omega
    have b6 : (k + 1 == 0) = false := beq_eq_false_iff_ne.2 (by omega)
    have b7 : 1 ≤ k + 1 := by omega
    rw [e2] at HC1 HD1
    rw [hk] at HC2 HD2
    clear ho e1 e2 hk
    go_enter Try.func4, Try.ntmps4
    go_wp2_with fail
    refine (awake_any _).mono ?_
    rintro e w1 ⟨rfl, g1⟩
    go_wp2_with fail
    refine (HC1 _).out.mono ?_
    rintro e w2 ⟨rfl, rfl⟩
    go_wp2_with fail
    refine (HC2 _).out.mono ?_
    rintro e w2 ⟨rfl, rfl⟩
    go_wp2_with fail
    refine (HD1 _).out.mono ?_
    rintro e w2 ⟨rfl, rfl⟩
    go_wp2_with fail
    refine (HD2 _).out.mono ?_
    rintro e w2 ⟨rfl, rfl⟩
    go_wp2_with fail
    go_ret
    exact ⟨rfl, g1⟩
end Go.Proofs.Ytkiciojipiakoaa
