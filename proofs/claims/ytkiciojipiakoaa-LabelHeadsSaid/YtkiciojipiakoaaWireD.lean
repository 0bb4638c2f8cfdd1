/- decode's walk. -/
import Derived.Test.YtkiciojipiakoaaWireC
namespace Go.Proofs.Ytkiciojipiakoaa
set_option linter.unusedVariables false
set_option linter.unusedSimpArgs false
set_option linter.unusedSectionVars false
open Go.RowKit

def decF : Nat → Nat → List UInt8 → Nat × Nat
  | _, _, [] => (0, 0)
  | i, acc, b :: l =>
    if 10 ≤ i then (0, 0) else if i = 9 ∧ 1 < b.toNat then (0, 0)
    else if b.toNat < 128 then (if b.toNat = 0 ∧ 0 < i then (0, 0) else (acc + b.toNat % 128 * 128 ^ i, i + 1))
    else decF (i + 1) (acc + b.toNat % 128 * 128 ^ i) l
def dec (l : List UInt8) : Nat × Nat := decF 0 0 l
def decV (l : List UInt8) : Nat := (dec l).1
def decN (l : List UInt8) : Nat := (dec l).2

theorem and127 (b : UInt8) : bits BinOp.and IntKind.u8 (b.toNat : Int) 127 = ((b.toNat % 128 : Nat) : Int) := by
  have h : ∀ x : Fin 256, bits BinOp.and IntKind.u8 ((x.val : Nat) : Int) 127 = ((x.val % 128 : Nat) : Int) := by decide +kernel
  exact h ⟨b.toNat, b.toNat_lt⟩
theorem two7 (k : Nat) : 2 ^ (7 * k) = 128 ^ k := by rw [Nat.pow_mul]
theorem or_disj (m c k : Nat) (hm : m < 2 ^ k) (hc : c * 2 ^ k + m < 18446744073709551616) : bits .or .u64 (m : Int) ((c * 2 ^ k : Nat) : Int) = ((m + c * 2 ^ k : Nat) : Int) := by
  have e : m ||| c * 2 ^ k = m + c * 2 ^ k := by
    rw [Nat.or_comm, Nat.mul_comm, ← Nat.two_pow_add_eq_or_of_lt hm, Nat.add_comm]
  show IntKind.u64.wrap ((BitVec.ofInt 64 (m : Int) ||| BitVec.ofInt 64 ((c * 2 ^ k : Nat) : Int)).toNat : Int) = _
  rw [BitVec.ofInt_natCast, BitVec.ofInt_natCast, BitVec.toNat_or, BitVec.toNat_ofNat, BitVec.toNat_ofNat, Nat.mod_eq_of_lt (by omega), Nat.mod_eq_of_lt (by omega), e, IntKind.wrap_u64]
  omega
theorem cast_mul_pow (c k : Nat) : ((c : Nat) : Int) * 2 ^ k = ((c * 2 ^ k : Nat) : Int) := by
  rw [Int.natCast_mul, Int.natCast_pow]; rfl
theorem orval (m k : Nat) (b : UInt8) (hm : m < 128 ^ k) (hc : b.toNat % 128 * 128 ^ k + m < 18446744073709551616) :
    bits .or .u64 (m : Int) (IntKind.u64.wrap (IntKind.u64.wrap (bits BinOp.and IntKind.u8 (b.toNat : Int) 127) * 2 ^ (7 * k))) = ((m + b.toNat % 128 * 128 ^ k : Nat) : Int) := by
  rw [and127, show IntKind.u64.wrap ((b.toNat % 128 : Nat) : Int) = ((b.toNat % 128 : Nat) : Int) from by rw [IntKind.wrap_u64]; omega, cast_mul_pow]
  rw [← two7] at hm hc ⊢
  rw [show IntKind.u64.wrap ((b.toNat % 128 * 2 ^ (7 * k) : Nat) : Int) = ((b.toNat % 128 * 2 ^ (7 * k) : Nat) : Int) from by rw [IntKind.wrap_u64]; omega]
  exact or_disj m _ _ hm hc
theorem pow128_8 : (128 : Nat) ^ 8 = 72057594037927936 := by decide
theorem pow128_9 : (128 : Nat) ^ 9 = 9223372036854775808 := by decide
theorem orval_lo (m k : Nat) (b : UInt8) (hk : k ≤ 8) (hm : m < 128 ^ k) :
    b.toNat % 128 * 128 ^ k + m < 18446744073709551616 ∧ m + b.toNat % 128 * 128 ^ k < 128 ^ (k + 1) := by
  have hp : (128 : Nat) ^ k ≤ 128 ^ 8 := Nat.pow_le_pow_right (by omega) hk
  rw [pow128_8] at hp
  have h1 : b.toNat % 128 ≤ 127 := by omega
  have h2 := Nat.mul_le_mul_right (128 ^ k) h1
  rw [Nat.pow_succ]
  omega
theorem ret_pair {k j : IntKind} {a b c d : Int} (h : a = b) (h' : c = d) : Ending.returned (.tuple #[.int k a, .int j c]) = .returned (.tuple #[.int k b, .int j d]) := by rw [h, h']
theorem drop_at (s : ByteArray) (k : Nat) (h : k < s.size) : s.data.toList.drop k = s[k] :: s.data.toList.drop (k + 1) := by
  rw [List.drop_eq_getElem_cons (by simpa using h)]; rfl
theorem decF_nil (k m : Nat) : decF k m [] = (0, 0) := rfl
theorem decF_ten (m : Nat) (l : List UInt8) : decF 10 m l = (0, 0) := by cases l <;> simp [decF]

set_option maxRecDepth 100000 in
set_option maxHeartbeats 1000000 in
theorem decode_any (s : ByteArray) (w : World) (hs : s.size ≤ 9223372036854775807) :
    Calls Try.prog 73 #[.string s] w fun e w' => e = .returned (.tuple #[.int .u64 (decV s.data.toList), .int .i64 (decN s.data.toList)]) ∧ w = w' := by
  go_enter Try.func73, Try.ntmps73
  go_wp2
  go_loop [4, 5] (fun a b => ∃ (k m : Nat), k ≤ s.size ∧ k ≤ 10 ∧ (k ≤ 9 → m < 128 ^ k) ∧ a = .int .u64 m ∧ b = .int .i64 k ∧ dec s.data.toList = decF k m (s.data.toList.drop k)) (fun _ b => 10 - (intOf b).toNat)
  case atStart => exact ⟨0, 0, by omega, by omega, by simp, rfl, rfl, rfl⟩
  case round =>
    obtain ⟨k, m, hk, hk10, hm, rfl, rfl, hdec⟩ := hrel
    by_cases hlt : k < s.size ∧ k < 10
    · obtain ⟨hl1, hl2⟩ := hlt
      have hbl := (s[k]).toNat_lt
      rw [drop_at s k hl1] at hdec
      replace hm := hm (by omega)
      have HD := Lib.hid hdec
      clear hdec
      by_cases h9 : k = 9
      · subst h9
        by_cases hb : 1 < s[9].toNat
        · go_wp2
          go_ret2
          exact ⟨ret_pair (by rw [decV, HD.out]; simp [decF, hb]) (by rw [decN, HD.out]; simp [decF, hb]), rfl⟩
        · rw [pow128_9] at hm
          have hv := orval m 9 s[9] (by rw [pow128_9]; exact hm) (by rw [pow128_9]; omega)
          rw [show (2 : Int) ^ (7 * 9) = 9223372036854775808 from rfl] at hv
          have hlt : s[9].toNat < 128 := by omega
          by_cases h0 : s[9].toNat = 0
          · have H0 := Lib.hid h0
            have h0' : s[9].toNat ≤ 0 := by omega
            clear h0
            go_wp2
            go_ret2
            exact ⟨ret_pair (by rw [decV, HD.out]; simp [decF, H0.out]) (by rw [decN, HD.out]; simp [decF, H0.out]), rfl⟩
          · go_wp2
            go_ret2
            exact ⟨ret_pair (by rw [decV, HD.out]; simp [decF, hb, hlt, h0]) (by rw [decN, HD.out]; simp [decF, hb, hlt, h0]), rfl⟩
      · have hk8 : k ≤ 8 := by omega
        have hlo := orval_lo m k s[k] hk8 hm
        have hv := orval m k s[k] hm hlo.1
        have HL := Lib.hid hlo.2
        have HM := Lib.hid hm
        clear hm hlo
        by_cases hlt : s[k].toNat < 128
        · by_cases h0 : s[k].toNat = 0
          · have H0 := Lib.hid h0
            have h0' : s[k].toNat ≤ 0 := by omega
            clear h0
            have hv0 : bits BinOp.or IntKind.u64 (↑m) (IntKind.u64.wrap (IntKind.u64.wrap (bits BinOp.and IntKind.u8 0 127) * 2 ^ (7 * k))) = (m : Int) := by
              rw [H0.out] at hv
              simpa using hv
            by_cases hk0 : k = 0
            · subst hk0
              rw [Nat.mul_zero, Int.pow_zero, Int.mul_one] at hv0
              go_wp2
              go_ret2
              exact ⟨ret_pair (by rw [decV, HD.out]; simp [decF, H0.out]) (by rw [decN, HD.out]; simp [decF, H0.out]), rfl⟩
            · go_wp2
              go_ret2
              exact ⟨ret_pair (by rw [decV, HD.out]; simp [decF, H0.out, h9, show ¬ 10 ≤ k from by omega, show 0 < k from by omega]) (by rw [decN, HD.out]; simp [decF, H0.out, h9, show ¬ 10 ≤ k from by omega, show 0 < k from by omega]), rfl⟩
          · go_wp2
            go_ret2
            exact ⟨ret_pair (by rw [decV, HD.out]; simp [decF, h9, hlt, h0, show ¬ 10 ≤ k from by omega]) (by rw [decN, HD.out]; simp [decF, h9, hlt, h0, show ¬ 10 ≤ k from by omega]), rfl⟩
        · go_wp2
          go_round
          case rel => exact ⟨k + 1, m + s[k].toNat % 128 * 128 ^ k, by omega, by omega, fun _ => HL.out, rfl, by go_num, by rw [HD.out]; simp [decF, h9, hlt, show ¬ 10 ≤ k from by omega]⟩
          case measure => simp [intOf]; omega
    · have hfin : decF k m (s.data.toList.drop k) = (0, 0) := by
        by_cases h10 : k = 10
        · rw [h10]; exact decF_ten _ _
        · rw [List.drop_eq_nil_of_le (by simp; omega)]; rfl
      rw [hfin] at hdec
      have HD := Lib.hid hdec
      clear hdec hfin
      by_cases hl1 : k < s.size
      · have hl2 : ¬ k < 10 := fun h => hlt ⟨hl1, h⟩
        clear hlt hm
        go_wp2
        go_ret2
        exact ⟨ret_pair (by rw [decV, HD.out]; rfl) (by rw [decN, HD.out]; rfl), rfl⟩
      · clear hlt hm
        go_wp2
        go_ret2
        exact ⟨ret_pair (by rw [decV, HD.out]; rfl) (by rw [decN, HD.out]; rfl), rfl⟩
end Go.Proofs.Ytkiciojipiakoaa
