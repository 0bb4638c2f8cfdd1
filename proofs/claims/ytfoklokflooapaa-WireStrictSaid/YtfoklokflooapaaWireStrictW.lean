/- WireStrict's walk. -/
import Derived.Test.YtfoklokflooapaaWireVal
import Derived.Deep.LoopGhost
import Derived.Deep.DeepCutAuto
import Derived.Deep.CutBlock
namespace Go.Proofs.Ytfoklokflooapaa
open Go.RowKit
theorem empty_app (x : ByteArray) : (⟨#[]⟩ : ByteArray) ++ x = x := by apply ByteArray.ext; simp
theorem RTxt_size1 (s : ByteArray) (most : Int) : (RTxt s 0 most).1.size ≤ s.size := by
  have h := RCnt_size s 0 most
  unfold RTxt
  repeat' split
  · exact Nat.zero_le _
  · exact Nat.zero_le _
  · simp only [ByteArray.size_extract]; omega
set_option maxRecDepth 100000 in
set_option maxHeartbeats 2000000 in
theorem strict_core (s : ByteArray) (kd : Nat) (w : World) (hs : s.size ≤ 300) (hkd : kd < 256) :
    Calls Try.prog 10 #[.string s, .int .u8 kd] w fun e w' => e = .returned (.bool true) ∧ Grew w w' := by
  go_enter Try.func10, Try.ntmps10
  go_wp2_with fail
  refine (awake_any w).mono ?_
  rintro e w1 ⟨rfl, g1⟩
  go_wp2_with fail
  refine (newReader_any _ _).mono ?_
  rintro e w2 ⟨g, rfl, hg, g2, hr⟩
  have hg2 : Grew w w2 := g1.trans g2
  have hgw : w.heap.size ≤ g := Nat.le_trans g1.size hg
  clear g1 g2
  have hse : s.size ≤ 9223372036854775807 := by omega
  have W0 := RNum_whole s
  have W1 := RBool_whole s
  have W2 := RTxt_whole s 300
  have HW0 := Lib.hid W0
  have HW1 := Lib.hid W1
  have HW2 := Lib.hid W2
  clear W0 W1 W2
  have hnl := RNum_lt s 0
  have hub := unzig_bd _ hnl
  have hzu := zig_unzig (RNum s 0).1
  have HZ := Lib.hid hzu
  clear hzu
  go_upto_block 0 with (fail)
  go_cut [6] (fun s6 wc => ∃ (again left : ByteArray) (err : Int), s6 = .string again ∧ Rd wc g left err ∧ Grew w wc ∧ again.size ≤ 2000000 ∧ left.size ≤ 300 ∧ Whole s again left err)
  case first =>
    have hk4 : kd % 4 = 0 ∨ kd % 4 = 1 ∨ kd % 4 = 2 ∨ kd % 4 = 3 := by omega
    rcases hk4 with h4 | h4 | h4 | h4
    · have e0 : ((kd : Int) % 4 == 0) = true := beq_iff_eq.2 (by omega)
      clear h4
      have hsz := RNum_size s 0
      have hel := enc_len (RNum s 0).1
      go_wp2_with fail
      refine (rnumber_any g s 0 w2 hr hse).mono ?_
      rintro e w3 ⟨rfl, t3, hr3⟩
      go_wp2_with fail
      refine (app_empty _ w3 hnl).mono ?_
      rintro e w4 ⟨rfl, g4⟩
      go_wp2_with fail
      go_meet
      exact ⟨_, _, _, rfl, Blk.grew hr3 g4, (hg2.turn t3 (by rintro i rfl; exact hgw)).trans g4, by show (enc (RNum s 0).1).toArray.size ≤ _; simp; omega, by omega, HW0.out⟩
    · have e0 : ((kd : Int) % 4 == 0) = false := beq_eq_false_iff_ne.2 (by omega)
      have e1 : ((kd : Int) % 4 == 1) = true := beq_iff_eq.2 (by omega)
      clear h4
      have hsz := RNum_size s 0
      have hel := enc_len (RNum s 0).1
      go_wp2_with fail
      refine (rint_any g s 0 w2 hr hse).mono ?_
      rintro e w3 ⟨rfl, t3, hr3⟩
      go_wp2_with fail
      refine (appInt_const ⟨#[]⟩ ⟨(enc (RNum s 0).1).toArray⟩ _ w3 hub.1 hub.2 (by decide) (by rw [HZ.out]; apply ByteArray.ext; simp)).mono ?_
      rintro e w4 ⟨rfl, g4⟩
      go_wp2_with fail
      go_meet
      exact ⟨_, _, _, rfl, Blk.grew hr3 g4, (hg2.turn t3 (by rintro i rfl; exact hgw)).trans g4, by show (enc (RNum s 0).1).toArray.size ≤ _; simp; omega, by omega, HW0.out⟩
    · have e0 : ((kd : Int) % 4 == 0) = false := beq_eq_false_iff_ne.2 (by omega)
      have e1 : ((kd : Int) % 4 == 1) = false := beq_eq_false_iff_ne.2 (by omega)
      have e2 : ((kd : Int) % 4 == 2) = true := beq_iff_eq.2 (by omega)
      clear h4
      have hsz := RBool_size s 0
      have C := rbool_any g s 0 w2 hr hse
      have W := HW1.out
      rcases hbv : (RBool s 0).1 with _ | _
      all_goals
        rw [hbv] at C W
        have HC := Lib.hid C
        have HW := Lib.hid W
        clear C W hbv
        go_wp2_with fail
        refine HC.out.mono ?_
        rintro e w3 ⟨rfl, t3, hr3⟩
        go_wp2_with fail
        refine (appendBool_any ⟨#[]⟩ _ w3 (by decide)).mono ?_
        rintro e w4 ⟨rfl, g4⟩
        go_wp2_with fail
        go_meet
        refine ⟨_, _, _, rfl, Blk.grew hr3 g4, (hg2.turn t3 (by rintro i rfl; exact hgw)).trans g4, ?_, by omega, ?_⟩
        · decide
        · rw [empty_app]; exact HW.out
    · have e0 : ((kd : Int) % 4 == 0) = false := beq_eq_false_iff_ne.2 (by omega)
      have e1 : ((kd : Int) % 4 == 1) = false := beq_eq_false_iff_ne.2 (by omega)
      have e2 : ((kd : Int) % 4 == 2) = false := beq_eq_false_iff_ne.2 (by omega)
      clear h4
      have hsz := RTxt_size s 0 300
      have hsz1 := RTxt_size1 s 300
      go_wp2_with fail
      refine (rtext_any g s 0 300 w2 hr hse (by decide) (by decide)).mono ?_
      rintro e w3 ⟨rfl, t3, hr3⟩
      go_wp2_with fail
      refine (appendText_any ⟨#[]⟩ _ w3 (by decide) (by omega)).mono ?_
      rintro e w4 ⟨rfl, g4⟩
      go_wp2_with fail
      go_meet
      refine ⟨_, _, _, rfl, Blk.grew hr3 g4, (hg2.turn t3 (by rintro i rfl; exact hgw)).trans g4, ?_, by omega, ?_⟩
      · have hel := enc_len (RTxt s 0 300).1.size
        rw [ByteArray.size_append, ByteArray.size_append]
        show (0 + (enc (RTxt s 0 300).1.size).toArray.size) + _ ≤ _
        simp
        omega
      · rw [empty_app]; exact HW2.out
  case rest =>
    obtain ⟨again, left, err, rfl, hr3, hg3, ha, hl, hw⟩ := hcut
    clear hr hg2
    have hls : left.size ≤ 9223372036854775807 := by omega
    by_cases hl0 : left.size = 0
    · have hln := toList_nil hl0
      have hl0' : ((left.size : Int) == 0) = true := beq_iff_eq.2 (by omega)
      by_cases he : err = 0
      · subst he
        have hfin : (again ++ left).toList == s.toList := by
          rcases hw with ⟨h, _⟩ | ⟨_, h⟩
          · exact absurd rfl h
          · rw [h]; exact beq_self_eq_true _
        have HF := Lib.hid hfin
        have HR := Lib.hid (show REnd left 0 = 0 by rw [REnd, if_neg (by omega)])
        have C := rend_same g left 0 wc hr3
        rw [HR.out] at C
        have HC := Lib.hid C
        clear C hfin hw
        go_wp2_with fail
        refine HC.out.mono ?_
        rintro e w4 ⟨rfl, rfl⟩
        go_wp2_with fail
        refine (rrest_any g left 0 _ hr3).mono ?_
        rintro e w4 ⟨rfl, rfl⟩
        have hB := HF.out
        go_wp2_with fail
        refine (rleft_any g left 0 _ hr3 hls).mono ?_
        rintro e w4 ⟨rfl, rfl⟩
        go_wp2_with fail
        refine (rrest_any g left 0 _ hr3).mono ?_
        rintro e w4 ⟨rfl, rfl⟩
        go_wp2_with fail
        go_ret
        exact ⟨rfl, hg3⟩
      · have HR := Lib.hid (show REnd left err = err by rw [REnd, if_neg (by omega)])
        have C := rend_same g left err wc hr3
        rw [HR.out] at C
        have HC := Lib.hid C
        have heb : (err != 0) = true := by rw [bne_iff_ne]; exact he
        clear C hw
        go_wp2_with fail
        refine HC.out.mono ?_
        rintro e w4 ⟨rfl, rfl⟩
        go_wp2_with fail
        refine (rleft_any g left err _ hr3 hls).mono ?_
        rintro e w4 ⟨rfl, rfl⟩
        go_wp2_with fail
        refine (rrest_any g left err _ hr3).mono ?_
        rintro e w4 ⟨rfl, rfl⟩
        go_wp2_with fail
        go_ret
        exact ⟨rfl, hg3⟩
    · have hw' : err = 0 ∧ again ++ left = s := by
        rcases hw with ⟨_, h⟩ | h
        · exact absurd (by rw [h]; rfl) hl0
        · exact h
      obtain ⟨rfl, hw2⟩ := hw'
      have hfin : (again ++ left).toList == s.toList := by rw [hw2]; exact beq_self_eq_true _
      have HF := Lib.hid hfin
      have hl0' : ((left.size : Int) == 0) = false := beq_eq_false_iff_ne.2 (by omega)
      have HR := Lib.hid (show REnd left 0 = 11 by rw [REnd, if_pos ⟨rfl, by omega⟩])
      have C := rend_same g left 0 wc hr3
      rw [HR.out] at C
      have HC := Lib.hid C
      clear C hfin hw hw2
      go_wp2_with fail
      refine HC.out.mono ?_
      rintro e w4 ⟨rfl, rfl⟩
      go_wp2_with fail
      refine (rleft_any g left 0 _ hr3 hls).mono ?_
      rintro e w4 ⟨rfl, rfl⟩
      go_wp2_with fail
      refine (rrest_any g left 0 _ hr3).mono ?_
      rintro e w4 ⟨rfl, rfl⟩
      have hB := HF.out
      go_wp2_with fail
      refine (rleft_any g left 0 _ hr3 hls).mono ?_
      rintro e w4 ⟨rfl, rfl⟩
      go_wp2_with fail
      refine (rrest_any g left 0 _ hr3).mono ?_
      rintro e w4 ⟨rfl, rfl⟩
      go_wp2_with fail
      go_ret
      exact ⟨rfl, hg3⟩
set_option maxRecDepth 100000 in
set_option maxHeartbeats 2000000 in
theorem strict_far (s : ByteArray) (kd : Nat) (w : World) (hs : s.size ≤ 9223372036854775807) (hb : 300 < s.size) :
    Calls Try.prog 10 #[.string s, .int .u8 kd] w fun e w' => e = .returned (.bool true) ∧ Grew w w' := by
  go_enter Try.func10, Try.ntmps10
  go_wp2_with fail
  refine (awake_any w).mono ?_
  rintro e w1 ⟨rfl, g1⟩
  go_wp2_with fail
  refine (awake_any w1).mono ?_
  rintro e w2 ⟨rfl, g2⟩
  go_wp2_with fail
  go_ret
  exact ⟨rfl, g1.trans g2⟩
theorem wireStrict_any (s : ByteArray) (kd : Nat) (w : World) (hs : s.size ≤ 9223372036854775807) (hkd : kd < 256) :
    Calls Try.prog 10 #[.string s, .int .u8 kd] w fun e w' => e = .returned (.bool true) ∧ Grew w w' := by
  by_cases h : 300 < s.size
  · exact strict_far s kd w hs h
  · exact strict_core s kd w (by omega) hkd
end Go.Proofs.Ytfoklokflooapaa
