/- WireValues' walk. -/
import Derived.Test.YtfoklokflooapaaWireJ
namespace Go.Proofs.Ytfoklokflooapaa
open Go.RowKit
set_option maxRecDepth 100000 in
set_option maxHeartbeats 2000000 in
theorem wireValues_any (s : ByteArray) (n : Int) (x : Bool) (t : ByteArray) (w : World) (hs : s.size ≤ 9223372036854775807) (ht : t.size ≤ 9223372036854775807) (h0 : -9223372036854775808 ≤ n) (h1 : n ≤ 9223372036854775807) :
    Calls Try.prog 5 #[.string s, .int .i64 n, .bool x, .string t] w fun e w' => e = .returned (.bool true) ∧ Grew w w' := by
  by_cases h : 100 < s.size
  · go_enter Try.func5, Try.ntmps5
    go_wp2_with fail
    refine (awake_any w).mono ?_
    rintro e w1 ⟨rfl, g1⟩
    go_wp2_with fail
    refine (awake_any w1).mono ?_
    rintro e w2 ⟨rfl, g2⟩
    go_wp2_with fail
    go_ret
    exact ⟨rfl, g1.trans g2⟩
  · by_cases h' : 500 < t.size
    · go_enter Try.func5, Try.ntmps5
      go_wp2_with fail
      refine (awake_any w).mono ?_
      rintro e w1 ⟨rfl, g1⟩
      go_wp2_with fail
      refine (awake_any w1).mono ?_
      rintro e w2 ⟨rfl, g2⟩
      go_wp2_with fail
      go_ret
      exact ⟨rfl, g1.trans g2⟩
    · cases x
      all_goals
        have hl := encF_len 9 (zig n)
        have hl' : (enc (zig n)).length ≤ 10 := hl
        have hk := encF_len 9 t.size
        have hk' : (enc t.size).length ≤ 10 := hk
        clear hl hk
        go_enter Try.func5, Try.ntmps5
        go_wp2_with fail
        refine (awake_any w).mono ?_
        rintro e w1 ⟨rfl, g1⟩
        go_wp2_with fail
        refine (appendInt_any s n w1 h0 h1 (by omega)).mono ?_
        rintro e w2 ⟨rfl, g2⟩
        go_wp2_with fail
        refine (refInt_any n w2 h0 h1).mono ?_
        rintro e w3 ⟨rfl, g3⟩
        go_wp2_with fail
        refine (appendBool_any s _ w3 (by omega)).mono ?_
        rintro e w4 ⟨rfl, g4⟩
        go_wp2_with fail
        refine (refBool_any _ w4).mono ?_
        rintro e w5 ⟨rfl, g5⟩
        go_wp2_with fail
        refine (appendText_any s t w5 (by omega) (by omega)).mono ?_
        rintro e w6 ⟨rfl, g6⟩
        go_wp2_with fail
        refine (refText_any t w6 (by omega)).mono ?_
        rintro e w7 ⟨rfl, g7⟩
        go_wp2_with fail
        go_ret
        exact ⟨ret_bool (by rw [ByteArray.append_assoc]; exact beq_self_eq_true _), g1.trans (g2.trans (g3.trans (g4.trans (g5.trans (g6.trans g7)))))⟩
end Go.Proofs.Ytfoklokflooapaa
