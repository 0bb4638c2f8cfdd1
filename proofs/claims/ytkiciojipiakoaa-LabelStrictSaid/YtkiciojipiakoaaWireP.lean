/- Plain facts: what is encoded is decoded, and the other way round. -/
import Derived.Test.YtkiciojipiakoaaWireG
namespace Go.Proofs.Ytkiciojipiakoaa
set_option linter.unusedVariables false
set_option linter.unusedSimpArgs false
set_option linter.unusedSectionVars false
open Go.RowKit

theorem hib_toNat (n : Nat) : (hib n).toNat = n % 128 + 128 := by
  rw [hib, UInt8.toNat_ofNat', Nat.mod_eq_of_lt (by omega)]
theorem ofNat_lt (n : Nat) (h : n < 256) : (UInt8.ofNat n).toNat = n := by
  rw [UInt8.toNat_ofNat', Nat.mod_eq_of_lt (by omega)]
theorem digit_sum (n i : Nat) : n % 128 * 128 ^ i + n / 128 * 128 ^ (i + 1) = n * 128 ^ i := by
  rw [Nat.pow_succ, ← Nat.mul_assoc, Nat.mul_right_comm, ← Nat.add_mul]
  congr 1
  omega
theorem decF_enc : ∀ (k i acc n : Nat) (rest : List UInt8), i + k = 9 → n * 128 ^ i < 18446744073709551616 → (0 < i → 0 < n) →
    decF i acc (encF k n ++ rest) = (acc + n * 128 ^ i, i + (encF k n).length) := by
  intro k
  induction k with
  | zero =>
    intro i acc n rest hi hn hp
    obtain rfl : i = 9 := by omega
    rw [pow128_9] at hn
    have hb := ofNat_lt n (by omega)
    have hp' := hp (by omega)
    simp only [encF, List.singleton_append, List.length_singleton]
    rw [decF, if_neg (by omega), hb, if_neg (by omega), if_pos (by omega), if_neg (by omega), Nat.mod_eq_of_lt (by omega)]
  | succ k ih =>
    intro i acc n rest hi hn hp
    rw [encF]
    split
    · rename_i h
      have hb := ofNat_lt n (by omega)
      simp only [List.singleton_append, List.length_singleton]
      rw [decF, if_neg (by omega), hb, if_neg (by omega), if_pos h, if_neg (by omega), Nat.mod_eq_of_lt h]
    · rename_i h
      have hb := hib_toNat n
      simp only [List.cons_append, List.length_cons]
      rw [decF, if_neg (by omega), hb, if_neg (by omega), if_neg (by omega), show (n % 128 + 128) % 128 = n % 128 from by omega]
      have hs := digit_sum n i
      rw [ih (i + 1) _ (n / 128) rest (by omega) (by omega) (by omega), Nat.add_assoc, hs]
      congr 1
      omega
theorem dec_enc (n : Nat) (rest : List UInt8) (h : n < 18446744073709551616) : dec (enc n ++ rest) = (n, (enc n).length) := by
  have := decF_enc 9 0 0 n rest (by omega) (by simpa using h) (by omega)
  simpa [dec, enc] using this

theorem decF_strict : ∀ (l : List UInt8) (i acc : Nat), i ≤ 9 → (decF i acc l).2 ≠ 0 →
    ∃ n, (decF i acc l).1 = acc + n * 128 ^ i ∧ (decF i acc l).2 = i + (encF (9 - i) n).length ∧ l = encF (9 - i) n ++ l.drop (encF (9 - i) n).length ∧ (0 < i → 0 < n) := by
  intro l
  induction l with
  | nil => intro i acc _ h; exact absurd rfl h
  | cons b l ih =>
    intro i acc hi h
    have hbl := b.toNat_lt
    rw [decF, if_neg (by omega)] at h ⊢
    by_cases h9 : i = 9 ∧ 1 < b.toNat
    · rw [if_pos h9] at h; exact absurd rfl h
    · rw [if_neg h9] at h ⊢
      by_cases hb : b.toNat < 128
      · rw [if_pos hb] at h ⊢
        by_cases h0 : b.toNat = 0 ∧ 0 < i
        · rw [if_pos h0] at h; exact absurd rfl h
        · rw [if_neg h0] at h ⊢
          have he : encF (9 - i) b.toNat = [b] := by
            have hx : UInt8.ofNat b.toNat = b := by simp
            cases 9 - i with
            | zero => rw [encF, hx]
            | succ j => rw [encF, if_pos hb, hx]
          refine ⟨b.toNat, ?_, ?_, ?_, by omega⟩
          · rw [Nat.mod_eq_of_lt hb]
          · rw [he]; rfl
          · rw [he]; rfl
      · rw [if_neg hb] at h ⊢
        have hi9 : i < 9 := by
          rcases Nat.lt_or_ge i 9 with h' | h'
          · exact h'
          · exact absurd ⟨by omega, by omega⟩ h9
        obtain ⟨n', h1, h2, h3, h4⟩ := ih (i + 1) _ (by omega) h
        have hn' := h4 (by omega)
        have e9 : 9 - i = (9 - (i + 1)) + 1 := by omega
        have hdiv : (b.toNat % 128 + 128 * n') / 128 = n' := by omega
        have hmod : (b.toNat % 128 + 128 * n') % 128 = b.toNat % 128 := by omega
        have hh : hib (b.toNat % 128 + 128 * n') = b := by
          rw [hib, hmod, show b.toNat % 128 + 128 = b.toNat from by omega]; simp
        have he : encF (9 - i) (b.toNat % 128 + 128 * n') = b :: encF (9 - (i + 1)) n' := by
          rw [e9, encF, if_neg (by omega), hh, hdiv]
        refine ⟨b.toNat % 128 + 128 * n', ?_, ?_, ?_, by omega⟩
        · rw [h1, ← digit_sum (b.toNat % 128 + 128 * n') i, hmod, hdiv]; omega
        · rw [h2, he, List.length_cons]; omega
        · rw [he, List.length_cons, List.drop_succ_cons, List.cons_append, ← h3]
theorem dec_strict (l : List UInt8) (h : decN l ≠ 0) : decN l = (enc (decV l)).length ∧ l = enc (decV l) ++ l.drop (enc (decV l)).length := by
  obtain ⟨n, h1, h2, h3, _⟩ := decF_strict l 0 0 (by omega) h
  have hv : decV l = n := by
    have : (dec l).1 = 0 + n * 128 ^ 0 := h1
    rw [decV, this]; simp
  have hn : decN l = 0 + (encF (9 - 0) n).length := h2
  rw [hv]
  exact ⟨by rw [hn]; simp [enc], h3⟩
theorem encF_pos (k n : Nat) : 0 < (encF k n).length := by
  cases k with
  | zero => simp [encF]
  | succ k => rw [encF]; split <;> simp
theorem encF_mono : ∀ (k a b : Nat), a ≤ b → (encF k a).length ≤ (encF k b).length := by
  intro k
  induction k with
  | zero => intro a b _; simp [encF]
  | succ k ih =>
    intro a b h
    rw [encF, encF]
    have hp := encF_pos k (b / 128)
    by_cases ha : a < 128
    · rw [if_pos ha]
      split
      · simp
      · simp
    · rw [if_neg ha, if_neg (by omega)]
      have := ih (a / 128) (b / 128) (by omega)
      simp only [List.length_cons]; omega
theorem enc_len (n : Nat) : (enc n).length ≤ 10 := encF_len 9 n
theorem enc_pos (n : Nat) : 0 < (enc n).length := encF_pos 9 n
theorem enc_mono (a b : Nat) (h : a ≤ b) : (enc a).length ≤ (enc b).length := encF_mono 9 a b h
theorem enc_take (a b m : Nat) (ha : a < 18446744073709551616) (hb : b < 18446744073709551616) (hm : m = (enc a).length ∨ m = (enc b).length) (_hma : m ≤ (enc a).length) (_hmb : m ≤ (enc b).length) :
    ((enc a).take m = (enc b).take m) ↔ a = b := by
  constructor
  · intro h
    rcases hm with hm | hm
    · rw [hm, List.take_length] at h
      have h1 := dec_enc a ((enc b).drop (enc a).length) ha
      have h3 : enc a ++ (enc b).drop (enc a).length = enc b := by
        conv => lhs; lhs; rw [h]
        exact List.take_append_drop _ _
      rw [h3] at h1
      have h2 := dec_enc b [] hb
      rw [List.append_nil, h1] at h2
      exact (Prod.mk.inj h2).1
    · rw [hm, List.take_length] at h
      have h1 := dec_enc b ((enc a).drop (enc b).length) hb
      have h3 : enc b ++ (enc a).drop (enc b).length = enc a := by
        conv => lhs; lhs; rw [← h]
        exact List.take_append_drop _ _
      rw [h3] at h1
      have h2 := dec_enc a [] ha
      rw [List.append_nil, h1] at h2
      exact (Prod.mk.inj h2).1.symm
  · intro h; rw [h]
theorem RBool_size (s : ByteArray) (err : Int) : (RBool s err).2.1.size ≤ s.size := by
  unfold RBool
  repeat' split
  · exact Nat.le_refl _
  · exact Nat.zero_le _
  · exact Nat.zero_le _
  · rw [ByteArray.size_extract]; omega
theorem RTxt_size (s : ByteArray) (err most : Int) : (RTxt s err most).2.1.size ≤ s.size := by
  have h := RCnt_size s err most
  unfold RTxt
  repeat' split
  · exact h
  · exact Nat.zero_le _
  · rw [ByteArray.size_extract]; omega
end Go.Proofs.Ytkiciojipiakoaa
