/- The example of the chapter; the laws on the appends. -/
import Derived.Test.YtfoklokflooapaaWireI
namespace Go.Proofs.Ytfoklokflooapaa
open Go.RowKit

theorem app_const (s r : ByteArray) (n : Nat) (w : World) (hn : n < 18446744073709551616) (hs : s.size ≤ 1000000) (hr : s ++ ⟨(enc n).toArray⟩ = r) :
    Calls Try.prog 12 #[.string s, .int .u64 n] w fun e w' => e = .returned (.string r) ∧ Grew w w' := by
  subst hr; exact appendNumber_any s n w hn hs
theorem appInt_const (s r : ByteArray) (n : Int) (w : World) (h0 : -9223372036854775808 ≤ n) (h1 : n ≤ 9223372036854775807) (hs : s.size ≤ 1000000) (hr : s ++ ⟨(enc (zig n)).toArray⟩ = r) :
    Calls Try.prog 14 #[.string s, .int .i64 n] w fun e w' => e = .returned (.string r) ∧ Grew w w' := by
  subst hr; exact appendInt_any s n w h0 h1 hs
theorem RNum_awake : RNum ⟨#[128, 0]⟩ 0 = (0, ⟨#[]⟩, 11) := by decide +kernel
theorem awake_number (g : Nat) (w : World) (h : Rd w g ⟨#[128, 0]⟩ 0) :
    Calls Try.prog 25 #[.pointer (some ⟨g, 0, none⟩)] w fun e w' => e = .returned (.int .u64 0) ∧ Turned (· = g) w w' ∧ Rd w' g ⟨#[]⟩ 11 := by
  have := rnumber_any g ⟨#[128, 0]⟩ 0 w h (by decide)
  rw [RNum_awake] at this
  exact this
set_option maxRecDepth 100000 in
set_option maxHeartbeats 2000000 in
theorem awake_any (w : World) : Calls Try.prog 11 #[] w fun e w' => e = .returned (.bool true) ∧ Grew w w' := by
  have r1 := fun w => Lib.hid (app_const ⟨#[120]⟩ ⟨#[120, 0]⟩ 0 w (by decide) (by decide) (by decide +kernel))
  have r2 := fun w => Lib.hid (app_const ⟨#[]⟩ ⟨#[127]⟩ 127 w (by decide) (by decide) (by decide +kernel))
  have r3 := fun w => Lib.hid (app_const ⟨#[]⟩ ⟨#[172, 2]⟩ 300 w (by decide) (by decide) (by decide +kernel))
  have r4 := fun w => Lib.hid (appInt_const ⟨#[]⟩ ⟨#[5]⟩ (-3) w (by decide) (by decide) (by decide) (by decide +kernel))
  go_enter Try.func11, Try.ntmps11
  go_wp2_with fail
  refine ((r1 _).out).mono ?_
  rintro e w1 ⟨rfl, g1⟩
  go_wp2_with fail
  refine ((r2 _).out).mono ?_
  rintro e w2 ⟨rfl, g2⟩
  go_wp2_with fail
  refine ((r3 _).out).mono ?_
  rintro e w3 ⟨rfl, g3⟩
  go_wp2_with fail
  refine ((r4 _).out).mono ?_
  rintro e w4 ⟨rfl, g4⟩
  go_wp2_with fail
  refine (newReader_any _ _).mono ?_
  rintro e w5 ⟨g, rfl, hg, g5, hr⟩
  go_wp2_with fail
  refine (awake_number g w5 hr).mono ?_
  rintro e w6 ⟨rfl, t6, hr6⟩
  go_wp2_with fail
  refine (rend_any g _ _ w6 hr6).mono ?_
  rintro e w7 ⟨rfl, g7⟩
  rw [show REnd ⟨#[]⟩ 11 = 11 from by decide]
  go_wp2_with fail
  go_ret
  refine ⟨rfl, ?_⟩
  have hs : w.heap.size ≤ g := Nat.le_trans (g1.trans (g2.trans (g3.trans g4))).size hg
  exact ((g1.trans (g2.trans (g3.trans (g4.trans g5)))).turn t6 (by rintro i rfl; exact hs)).trans g7
set_option maxRecDepth 100000 in
set_option maxHeartbeats 2000000 in
theorem wireNumbers_any (s : ByteArray) (n : Nat) (w : World) (hs : s.size ≤ 9223372036854775807) (hn : n < 18446744073709551616) :
    Calls Try.prog 3 #[.string s, .int .u64 n] w fun e w' => e = .returned (.bool true) ∧ Grew w w' := by
  by_cases h : 100 < s.size
  · go_enter Try.func3, Try.ntmps3
    go_wp2_with fail
    refine (awake_any w).mono ?_
    rintro e w1 ⟨rfl, g1⟩
    go_wp2_with fail
    go_ret
    exact ⟨rfl, g1⟩
  · have hl := encF_len 9 n
    have hl' : (enc n).length ≤ 10 := hl
    clear hl
    go_enter Try.func3, Try.ntmps3
    go_wp2_with fail
    refine (awake_any w).mono ?_
    rintro e w1 ⟨rfl, g1⟩
    go_wp2_with fail
    refine (appendNumber_any s n w1 hn (by omega)).mono ?_
    rintro e w2 ⟨rfl, g2⟩
    go_wp2_with fail
    refine (number_enc n w2 hn).mono ?_
    rintro e w3 ⟨rfl, g3⟩
    go_wp2_with fail
    go_ret
    exact ⟨rfl, g1.trans (g2.trans g3)⟩
end Go.Proofs.Ytfoklokflooapaa
