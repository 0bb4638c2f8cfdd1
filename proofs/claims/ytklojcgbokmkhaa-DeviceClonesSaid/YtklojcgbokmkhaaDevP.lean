/- Chapter 3: awake. -/
import Derived.Test.YtklojcgbokmkhaaDevO
namespace Go.Proofs.Ytklojcgbokmkhaa
set_option linter.unusedVariables false
set_option linter.unusedSimpArgs false
set_option linter.unusedSectionVars false
open Go.RowKit
open Go.Maps (Keyed)
attribute [local go_sem ↓] Go.wp_at_zero Go.wp_at_succ
theorem aw1_read : readD aw1 0 = (fullS abcdef, 0) := by kernel_rfl
theorem aw2_read : readD aw2 0 = (fullS abc, 0) := by kernel_rfl
set_option maxRecDepth 100000 in
set_option maxHeartbeats 8000000 in
theorem awake_any (w : World) : Calls Try.prog 10 #[] w fun e w' => e = .returned (.bool true) ∧ Grew w w' := by
  have HW1 := Lib.hid aw1_is
  have HC1 := Lib.hid aw2_is
  have HF1 := Lib.hid aw3_is
  have HFA := Lib.hid (full_any abcdef)
  have HFB := Lib.hid (full_any abc)
  have HE1 := Lib.hid (str_eq (rfl : fullS abc = fullS abc))
  have HE2 := Lib.hid (str_eq (rfl : fullS abcdef = fullS abcdef))
  have HSZ := Lib.hid (fullS_size abcdef)
  have HWA := Lib.hid (write_fenced (D := aw3) (s := 1) (e := 5) (sec := 0) (data := fullS abcdef) rfl (by decide) (fullS_size _) (by decide) (by decide))
  have HWB := Lib.hid (write_calm (D := aw3) (s := 1) (e := 6) (sec := 0) (data := fullS abcdef) rfl rfl (by decide) (fullS_size _) (by decide) (by decide))
  have HR1 := Lib.hid aw1_read
  have HR2 := Lib.hid aw2_read
  have HPD := Lib.hid (show aw1.pend.length ≤ 1000000 from by decide)
  have HWT := Lib.hid (show waitD aw1 1 = 1 from by kernel_rfl)
  have HEA := Lib.hid (show earlierD aw3 0 = 1 from by kernel_rfl)
  go_enter Try.func10, Try.ntmps10
  go_wp2_with fail
  refine (new_live 2 w (by omega) (by omega)).mono ?_
  rintro e w1 ⟨x, rfl, hL⟩
  have HL := Lib.hid hL
  clear hL
  go_wp2_with fail
  refine (HFA.out w1 (by decide)).mono ?_
  rintro e w2 ⟨rfl, rfl⟩
  have hL := HL.out.more ((Grew.refl w1).alloc (.cells #[.int .i64 1, .int .i64 5] 40))
  have hB := Blk.new w1 40 #[.int .i64 1, .int .i64 5] rfl
  go_wp2_with fail
  refine (write_live hL 1 5 0 (fullS abcdef) (by decide) (by rw [HSZ.out]; decide)).mono ?_
  rw [HW1.out]
  rintro e w3 ⟨rfl, hL3, ht3⟩
  have hnt : ¬ (w.heap.size ≤ w1.heap.size ∧ ¬ ((fun _ => False) w1.heap.size ∨ (w1.heap.size ≤ w1.heap.size ∧ w1.heap.size < (w1.alloc (.cells #[.int .i64 1, .int .i64 5] 40)).heap.size))) := by
    intro h; exact h.2 (.inr ⟨Nat.le_refl _, by simp⟩)
  have HNT := Lib.hid hnt
  have hB3 := hB.turned ht3 hnt
  have HB3 := Lib.hid hB3
  have HL3 := Lib.hid hL3
  have c0 := hB3.cell 0
  have c1 := hB3.cell 1
  have hl3 := hB3.lt
  clear hL hB hL3 ht3 hnt hB3
  go_wp2_with fail
  refine (pending_live HL3.out 1 HPD.out).mono ?_
  rw [HWT.out]
  rintro e w4 ⟨rfl, hg4⟩
  have HL4 := Lib.hid (HL3.out.grew hg4)
  have HB4 := Lib.hid (HB3.out.grew hg4)
  clear hg4 c0 c1 hl3
  go_wp2_with fail
  refine (read_live HL4.out 0 _ _ HR1.out).mono ?_
  rintro e w5 ⟨rfl, rfl⟩
  have hg5 := (Grew.refl w4).alloc (.cells #[.int .i64 3] 3)
  have hla : ListAt (w4.alloc (.cells #[.int .i64 3] 3)) (w4.alloc (.cells #[.int .i64 3] 3)).heap.size 1 (some ⟨w4.heap.size, 0, none⟩) ([3].map intC) := (OwnL.lit w4 0 3 1 (intC 3) rfl (Nat.zero_le _) rfl).listA
  have HL5 := Lib.hid (HL4.out.more hg5)
  have HB5 := Lib.hid (HB4.out.grew hg5)
  have HLA := Lib.hid hla
  clear hla hg5
  go_wp2_with fail
  refine (crash_live HL5.out 1 (some ⟨w4.heap.size, 0, none⟩) 1 [3] HLA.out (fun _ b off e => by
    injection e with e
    injection e with e _ _
    subst e
    exact .inr (.inr ⟨Nat.le_refl _, by simp⟩)) (by decide) (fun n hn => by rw [List.mem_singleton.1 hn]; unfold okI; omega) HPD.out).mono ?_
  rw [HC1.out]
  rintro e w6 ⟨rfl, hL6, ht6⟩
  have hB6 := HB5.out.turned ht6 (fun h => h.2 (.inl (.inr ⟨Nat.le_refl _, by simp⟩)))
  have HB6 := Lib.hid hB6
  have HL6 := Lib.hid (hL6.few (out' := fun k => k = w1.heap.size) (fun k hk => .inl (.inr ⟨by omega, by simp [hk]⟩)))
  clear hL6 ht6 hB6
  go_wp2_with fail
  refine (read_live HL6.out 0 _ _ HR2.out).mono ?_
  rintro e w7 ⟨rfl, rfl⟩
  go_wp2_with fail
  refine (fence_live HL6.out 1 5 (by unfold okI; omega) (by unfold okI; omega)).mono ?_
  rw [HF1.out]
  rintro e w7 ⟨rfl, hL7, ht7⟩
  have HB7 := Lib.hid (HB6.out.turned ht7 (fun h => h.2 rfl))
  have HL7 := Lib.hid hL7
  clear hL7 ht7
  have c0 := HB7.out.cell 0
  have c1 := HB7.out.cell 1
  have hl7 := HB7.out.lt
  have he2 := HE2.out
  go_wp2_with fail
  refine (HFB.out w7 (by decide)).mono ?_
  rintro e w8 ⟨rfl, rfl⟩
  have he1 := HE1.out
  go_wp2_with fail
  refine (old_live HL7.out 0).mono ?_
  rw [HEA.out]
  rintro e w8 ⟨rfl, rfl⟩
  go_wp2_with fail
  refine (write_live HL7.out 1 5 0 (fullS abcdef) (by decide) (by rw [HSZ.out]; decide)).mono ?_
  rw [HWA.out]
  rintro e w8 ⟨rfl, hL8, ht8⟩
  have HL8 := Lib.hid hL8
  clear hL8 ht8 c0 c1 hl7
  go_wp2_with fail
  refine (write_live HL8.out 1 6 0 (fullS abcdef) (by decide) (by rw [HSZ.out]; decide)).mono ?_
  rw [HWB.out]
  rintro e w9 ⟨rfl, hL9, ht9⟩
  have HG9 := Lib.hid hL9.base
  clear hL9 ht9
  go_wp2_with fail
  go_ret
  exact ⟨rfl, HG9.out⟩
end Go.Proofs.Ytklojcgbokmkhaa
