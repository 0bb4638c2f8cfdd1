/- Plain facts: values behind one another are read again; what is read is what was written. -/
import Derived.Test.YtfoklokflooapaaWirePrefixW
namespace Go.Proofs.Ytfoklokflooapaa
open Go.RowKit
theorem unzig_zig (i : Int) : unzig (zig i) = i := by
  unfold zig unzig
  split
  · rw [if_pos (by omega)]; omega
  · rw [if_neg (by omega)]; omega
theorem zig_unzig (n : Nat) : zig (unzig n) = n := by
  unfold zig unzig
  by_cases h : n % 2 = 1
  · rw [if_pos h, if_pos (by omega)]; omega
  · rw [if_neg h, if_neg (by omega)]; omega
theorem unzig_bd (n : Nat) (h : n < 18446744073709551616) : -9223372036854775808 ≤ unzig n ∧ unzig n ≤ 9223372036854775807 := by
  unfold unzig; split <;> omega
theorem extract_app (a b : List UInt8) : (⟨(a ++ b).toArray⟩ : ByteArray).extract a.length (⟨(a ++ b).toArray⟩ : ByteArray).size = ⟨b.toArray⟩ := by
  rw [Lib.extract_eq]
  congr 2
  simp only []
  rw [List.drop_left]
  apply List.take_of_length_le
  show b.length ≤ (a ++ b).toArray.size - a.length
  simp
theorem extract_pre (a b : List UInt8) : (⟨(a ++ b).toArray⟩ : ByteArray).extract 0 a.length = ⟨a.toArray⟩ := by
  rw [Lib.extract_eq]
  congr 2
  simp
theorem RNum_app (n : Nat) (rest : List UInt8) (h : n < 18446744073709551616) : RNum ⟨(enc n ++ rest).toArray⟩ 0 = (n, ⟨rest.toArray⟩, 0) := by
  have hd := dec_enc n rest h
  have hp := enc_pos n
  have hd' : dec (⟨(enc n ++ rest).toArray⟩ : ByteArray).data.toList = (n, ((enc n).length - 1) + 1) := by rw [show (enc n).length - 1 + 1 = (enc n).length from by omega]; exact hd
  rw [RNum_some _ n _ hd', show (enc n).length - 1 + 1 = (enc n).length from by omega, extract_app]
theorem RCnt_app (n : Nat) (rest : List UInt8) (most : Int) (h : n < 18446744073709551616) (hm : (n : Int) ≤ most) : RCnt ⟨(enc n ++ rest).toArray⟩ 0 most = (n, ⟨rest.toArray⟩, 0) := by
  rw [RCnt, RNum_app n rest h, if_neg (by simp), if_neg (by simp; omega)]
theorem RTxt_app (t rest : List UInt8) (most : Int) (h : t.length < 18446744073709551616) (hm : (t.length : Int) ≤ most) : RTxt ⟨(enc t.length ++ (t ++ rest)).toArray⟩ 0 most = (⟨t.toArray⟩, ⟨rest.toArray⟩, 0) := by
  rw [RTxt, RCnt_app _ _ _ h hm, if_neg (by simp)]
  have hsz : (⟨(t ++ rest).toArray⟩ : ByteArray).size = t.length + rest.length := by show (t ++ rest).toArray.size = _; simp
  rw [if_neg (by simp only [hsz]; omega)]
  simp only []
  rw [extract_pre, extract_app]
theorem RBool_app (b : Bool) (rest : List UInt8) : RBool ⟨((if b then 1 else 0) :: rest).toArray⟩ 0 = (b, ⟨rest.toArray⟩, 0) := by
  have hsz : (⟨((if b then 1 else 0) :: rest : List UInt8).toArray⟩ : ByteArray).size = rest.length + 1 := by show ((if b then 1 else 0) :: rest : List UInt8).toArray.size = _; simp
  have he := extract_app [(if b then 1 else 0)] rest
  rw [List.singleton_append, List.length_singleton] at he
  rw [RBool, if_neg (by simp), dif_neg (by rw [hsz]; omega), he]
  have hg : (⟨((if b then 1 else 0) :: rest : List UInt8).toArray⟩ : ByteArray)[0]'(by rw [hsz]; omega) = if b then 1 else 0 := by rfl
  rw [hg, if_neg (by cases b <;> decide)]
  cases b <;> rfl
theorem data_eq (s : ByteArray) : (⟨s.data.toList.toArray⟩ : ByteArray) = s := Lib.mk_data s
/-- What is read without an error is what would be written. -/
def Whole (s again left : ByteArray) (err : Int) : Prop := (err ≠ 0 ∧ left = ⟨#[]⟩) ∨ (err = 0 ∧ again ++ left = s)
theorem RNum_whole (s : ByteArray) : Whole s ⟨(enc (RNum s 0).1).toArray⟩ (RNum s 0).2.1 (RNum s 0).2.2 := by
  by_cases h : decN s.data.toList = 0
  · left
    rw [RNum, if_neg (by simp), if_pos h]
    exact ⟨by decide, rfl⟩
  · right
    rw [RNum, if_neg (by simp), if_neg h]
    obtain ⟨h1, h2⟩ := dec_strict _ h
    refine ⟨rfl, ?_⟩
    simp only []
    rw [h1]
    generalize enc (decV s.data.toList) = E at h1 h2 ⊢
    have hx := extract_app E (s.data.toList.drop E.length)
    rw [← h2, data_eq] at hx
    rw [hx]
    conv => rhs; rw [← data_eq s, h2]
    exact ByteArray.mk_append_mk _ _
theorem RBool_whole (s : ByteArray) : Whole s ⟨#[if (RBool s 0).1 then 1 else 0]⟩ (RBool s 0).2.1 (RBool s 0).2.2 := by
  by_cases h : s.size = 0
  · left
    rw [RBool, if_neg (by simp), dif_pos h]
    exact ⟨by decide, rfl⟩
  · by_cases h1 : 1 < (s[0]'(by omega)).toNat
    · left
      rw [RBool, if_neg (by simp), dif_neg h, if_pos h1]
      exact ⟨by decide, rfl⟩
    · right
      rw [RBool, if_neg (by simp), dif_neg h, if_neg h1]
      refine ⟨rfl, ?_⟩
      have hc : s.data.toList = s[0]'(by omega) :: s.data.toList.drop 1 := by
        have := drop_at s 0 (by omega)
        rwa [List.drop_zero] at this
      simp only [decide_eq_true_eq]
      have hb : (if (s[0]'(by omega)).toNat = 1 then (1 : UInt8) else 0) = s[0]'(by omega) := by
        apply UInt8.toNat_inj.1
        split
        · rename_i e; rw [e]; rfl
        · have : (s[0]'(by omega)).toNat = 0 := by omega
          rw [this]; rfl
      rw [hb]
      have hx : s.extract 1 s.size = ⟨(s.data.toList.drop 1).toArray⟩ := by
        have := extract_app [s[0]'(by omega)] (s.data.toList.drop 1)
        rw [List.singleton_append, List.length_singleton, ← hc, data_eq] at this
        exact this
      rw [hx]
      conv => rhs; rw [← data_eq s, hc]
      exact ByteArray.mk_append_mk [s[0]'(by omega)] _
theorem RTxt_whole (s : ByteArray) (most : Int) : Whole s (⟨(enc (RTxt s 0 most).1.size).toArray⟩ ++ (RTxt s 0 most).1) (RTxt s 0 most).2.1 (RTxt s 0 most).2.2 := by
  rcases RNum_whole s with ⟨h1, h2⟩ | ⟨h1, h2⟩
  · left
    have hc : RCnt s 0 most = (0, ⟨#[]⟩, (RNum s 0).2.2) := by rw [RCnt, if_pos h1, h2]
    rw [RTxt, hc, if_pos h1]
    exact ⟨h1, rfl⟩
  · by_cases hm : most < 0 ∨ most < ((RNum s 0).1 : Int)
    · left
      have hc : RCnt s 0 most = (0, ⟨#[]⟩, 8) := by rw [RCnt, if_neg (by simp [h1]), if_pos hm]
      rw [RTxt, hc, if_pos (by decide)]
      exact ⟨by decide, rfl⟩
    · have hc : RCnt s 0 most = RNum s 0 := by rw [RCnt, if_neg (by simp [h1]), if_neg hm]
      by_cases hl : (RNum s 0).2.1.size < (RNum s 0).1
      · left
        rw [RTxt, hc, if_neg (by simp [h1]), if_pos hl]
        exact ⟨by decide, rfl⟩
      · right
        rw [RTxt, hc, if_neg (by simp [h1]), if_neg hl]
        refine ⟨rfl, ?_⟩
        have hsz : ((RNum s 0).2.1.extract 0 (RNum s 0).1).size = (RNum s 0).1 := by rw [ByteArray.size_extract]; omega
        simp only [hsz]
        rw [ByteArray.append_assoc]
        have : (RNum s 0).2.1.extract 0 (RNum s 0).1 ++ (RNum s 0).2.1.extract (RNum s 0).1 (RNum s 0).2.1.size = (RNum s 0).2.1 := by
          apply ByteArray.ext
          simp
        rw [this]
        exact h2
end Go.Proofs.Ytfoklokflooapaa
