/- The other appends. -/
import Derived.Test.YtkiciojipiakoaaWireB
import Derived.PlainAid
namespace Go.Proofs.Ytkiciojipiakoaa
set_option linter.unusedVariables false
set_option linter.unusedSimpArgs false
set_option linter.unusedSectionVars false
open Go.RowKit

def zig (n : Int) : Nat := if n < 0 then 2 * (-(n + 1)).toNat + 1 else 2 * n.toNat
theorem zig_lt (n : Int) (h0 : -9223372036854775808 ≤ n) (h1 : n ≤ 9223372036854775807) : zig n < 18446744073709551616 := by
  unfold zig; split <;> omega
theorem ret_int {k : IntKind} {a b : Int} (h : a = b) : Ending.returned (.int k a) = .returned (.int k b) := by rw [h]
theorem ret_bool {a b : Bool} (h : a = b) : Ending.returned (.bool a) = .returned (.bool b) := by rw [h]
theorem xor_zero64 (a : Int) (h0 : 0 ≤ a) (h1 : a < 18446744073709551616) : bits .xor .u64 a 0 = a := by
  show IntKind.u64.wrap ((BitVec.ofInt 64 a ^^^ BitVec.ofInt 64 0).toNat : Int) = _
  rw [show BitVec.ofInt 64 0 = 0#64 from rfl, BitVec.xor_zero, IntKind.wrap_u64, BitVec.toNat_ofInt]
  omega
theorem xor_ones64 (a : Int) (h0 : 0 ≤ a) (h1 : a < 18446744073709551616) : bits .xor .u64 a 18446744073709551615 = 18446744073709551615 - a := by
  show IntKind.u64.wrap ((BitVec.ofInt 64 a ^^^ BitVec.ofInt 64 18446744073709551615).toNat : Int) = _
  rw [show BitVec.ofInt 64 18446744073709551615 = BitVec.allOnes 64 from by decide, BitVec.xor_allOnes, IntKind.wrap_u64, BitVec.toNat_not, BitVec.toNat_ofInt]
  omega
theorem xor_zig (n : Int) (h0 : -9223372036854775808 ≤ n) (h1 : n ≤ 9223372036854775807) :
    bits BinOp.xor IntKind.u64 (IntKind.u64.wrap (IntKind.u64.wrap n * 2)) (IntKind.u64.wrap (n / 9223372036854775808)) = (zig n : Int) := by
  by_cases hn : n < 0
  · rw [PlainAid.shr63_neg hn h0, show IntKind.u64.wrap (-1) = 18446744073709551615 from by rw [IntKind.wrap_u64]; decide, IntKind.wrap_u64, IntKind.wrap_u64, xor_ones64 _ (by omega) (by omega), zig, if_pos hn]
    omega
  · rw [PlainAid.shr63_nonneg (by omega) h1, show IntKind.u64.wrap 0 = 0 from by rw [IntKind.wrap_u64]; decide, IntKind.wrap_u64, IntKind.wrap_u64, xor_zero64 _ (by omega) (by omega), zig, if_neg hn]
    omega

set_option maxRecDepth 100000 in
set_option maxHeartbeats 400000 in
theorem appendText_any (s t : ByteArray) (w : World) (hs : s.size ≤ 1000000) (ht : t.size ≤ 1000000) :
    Calls Try.prog 48 #[.string s, .string t] w fun e w' => e = .returned (.string (s ++ ⟨(enc t.size).toArray⟩ ++ t)) ∧ Grew w w' := by
  have hl := encF_len 9 t.size
  have hl' : (enc t.size).length ≤ 10 := hl
  clear hl
  go_enter Try.func48, Try.ntmps48
  go_wp2_with fail
  refine (appendNumber_any s t.size w (by omega) hs).mono ?_
  rintro e w' ⟨rfl, hg⟩
  go_wp2_with fail
  go_ret
  exact ⟨rfl, by (repeat' first | (with_reducible exact Grew.refl _) | (with_reducible assumption) | (with_reducible refine Grew.alloc ?_ _) | (with_reducible refine Grew.drew ?_) | (with_reducible refine Grew.drewN ?_ _) | (with_reducible refine Grew.setRow ?_ (by first | (simp; done) | (simp; omega) | omega) _) | (with_reducible refine Grew.setCell ?_ (by first | (simp; done) | (simp; omega) | omega) _) | ((with_reducible apply Grew.trans); rotate_left; (with_reducible assumption)) | ((with_reducible apply Grew.turn); rotate_left; (with_reducible assumption); (focus (intro i hi; first | omega | (simp at hi; omega)))) | fail)⟩
set_option maxRecDepth 100000 in
set_option maxHeartbeats 400000 in
theorem refText_any (t : ByteArray) (w : World) (ht : t.size ≤ 1000000) :
    Calls Try.prog 51 #[.string t] w fun e w' => e = .returned (.string (⟨(enc t.size).toArray⟩ ++ t)) ∧ Grew w w' := by
  have hl := encF_len 9 t.size
  have hl' : (enc t.size).length ≤ 10 := hl
  clear hl
  go_enter Try.func51, Try.ntmps51
  go_wp2_with fail
  refine (number_enc t.size w (by omega)).mono ?_
  rintro e w' ⟨rfl, hg⟩
  go_wp2_with fail
  go_ret
  exact ⟨rfl, by (repeat' first | (with_reducible exact Grew.refl _) | (with_reducible assumption) | (with_reducible refine Grew.alloc ?_ _) | (with_reducible refine Grew.drew ?_) | (with_reducible refine Grew.drewN ?_ _) | (with_reducible refine Grew.setRow ?_ (by first | (simp; done) | (simp; omega) | omega) _) | (with_reducible refine Grew.setCell ?_ (by first | (simp; done) | (simp; omega) | omega) _) | ((with_reducible apply Grew.trans); rotate_left; (with_reducible assumption)) | ((with_reducible apply Grew.turn); rotate_left; (with_reducible assumption); (focus (intro i hi; first | omega | (simp at hi; omega)))) | fail)⟩
end Go.Proofs.Ytkiciojipiakoaa
