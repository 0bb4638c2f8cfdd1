/- Chapter 7, plain: different labels have different encodings. -/
import Derived.Test.YtkiciojipiakoaaLabI
import Derived.Lib.Strings
namespace Go.Proofs.Ytkiciojipiakoaa
set_option linter.unusedVariables false
set_option linter.unusedSimpArgs false
set_option linter.unusedSectionVars false
open Go.RowKit
theorem extract_app (a b : List UInt8) : (⟨(a ++ b).toArray⟩ : ByteArray).extract a.length (⟨(a ++ b).toArray⟩ : ByteArray).size = ⟨b.toArray⟩ := by
  rw [Lib.extract_eq]
  congr 2
  simp only []
  rw [List.drop_left]
  apply List.take_of_length_le
  show b.length ≤ (a ++ b).toArray.size - a.length
  simp
theorem extract_pre (a b : List UInt8) : (⟨(a ++ b).toArray⟩ : ByteArray).extract 0 a.length = ⟨a.toArray⟩ := by
  rw [Lib.extract_eq]
  congr 2
  simp
theorem RNum_app (n : Nat) (rest : List UInt8) (h : n < 18446744073709551616) : RNum ⟨(enc n ++ rest).toArray⟩ 0 = (n, ⟨rest.toArray⟩, 0) := by
  have hd := dec_enc n rest h
  have hp := enc_pos n
  have hd' : dec (⟨(enc n ++ rest).toArray⟩ : ByteArray).data.toList = (n, ((enc n).length - 1) + 1) := by rw [show (enc n).length - 1 + 1 = (enc n).length from by omega]; exact hd
  rw [RNum_some _ n _ hd', show (enc n).length - 1 + 1 = (enc n).length from by omega, extract_app]
theorem RCnt_app (n : Nat) (rest : List UInt8) (most : Int) (h : n < 18446744073709551616) (hm : (n : Int) ≤ most) : RCnt ⟨(enc n ++ rest).toArray⟩ 0 most = (n, ⟨rest.toArray⟩, 0) := by
  rw [RCnt, RNum_app n rest h, if_neg (by simp), if_neg (by simp; omega)]
theorem RTxt_app (t rest : List UInt8) (most : Int) (h : t.length < 18446744073709551616) (hm : (t.length : Int) ≤ most) : RTxt ⟨(enc t.length ++ (t ++ rest)).toArray⟩ 0 most = (⟨t.toArray⟩, ⟨rest.toArray⟩, 0) := by
  rw [RTxt, RCnt_app _ _ _ h hm, if_neg (by simp)]
  have hsz : (⟨(t ++ rest).toArray⟩ : ByteArray).size = t.length + rest.length := by show (t ++ rest).toArray.size = _; simp
  rw [if_neg (by simp only [hsz]; omega)]
  simp only []
  rw [extract_pre, extract_app]
theorem data_eq (s : ByteArray) : (⟨s.data.toList.toArray⟩ : ByteArray) = s := Lib.mk_data s
def Whole (s again left : ByteArray) (err : Int) : Prop := (err ≠ 0 ∧ left = ⟨#[]⟩) ∨ (err = 0 ∧ again ++ left = s)
theorem RNum_whole (s : ByteArray) : Whole s ⟨(enc (RNum s 0).1).toArray⟩ (RNum s 0).2.1 (RNum s 0).2.2 := by
  by_cases h : decN s.data.toList = 0
  · left
    rw [RNum, if_neg (by simp), if_pos h]
    exact ⟨by decide, rfl⟩
  · right
    rw [RNum, if_neg (by simp), if_neg h]
    obtain ⟨h1, h2⟩ := dec_strict _ h
    refine ⟨rfl, ?_⟩
    simp only []
    rw [h1]
    generalize enc (decV s.data.toList) = E at h1 h2 ⊢
    have hx := extract_app E (s.data.toList.drop E.length)
    rw [← h2, data_eq] at hx
    rw [hx]
    conv => rhs; rw [← data_eq s, h2]
    exact ByteArray.mk_append_mk _ _
theorem RTxt_whole (s : ByteArray) (most : Int) : Whole s (⟨(enc (RTxt s 0 most).1.size).toArray⟩ ++ (RTxt s 0 most).1) (RTxt s 0 most).2.1 (RTxt s 0 most).2.2 := by
  rcases RNum_whole s with ⟨h1, h2⟩ | ⟨h1, h2⟩
  · left
    have hc : RCnt s 0 most = (0, ⟨#[]⟩, (RNum s 0).2.2) := by rw [RCnt, if_pos h1, h2]
    rw [RTxt, hc, if_pos h1]
    exact ⟨h1, rfl⟩
  · by_cases hm : most < 0 ∨ most < ((RNum s 0).1 : Int)
    · left
      have hc : RCnt s 0 most = (0, ⟨#[]⟩, 8) := by rw [RCnt, if_neg (by simp [h1]), if_pos hm]
      rw [RTxt, hc, if_pos (by decide)]
      exact ⟨by decide, rfl⟩
    · have hc : RCnt s 0 most = RNum s 0 := by rw [RCnt, if_neg (by simp [h1]), if_neg hm]
      by_cases hl : (RNum s 0).2.1.size < (RNum s 0).1
      · left
        rw [RTxt, hc, if_neg (by simp [h1]), if_pos hl]
        exact ⟨by decide, rfl⟩
      · right
        rw [RTxt, hc, if_neg (by simp [h1]), if_neg hl]
        refine ⟨rfl, ?_⟩
        have hsz : ((RNum s 0).2.1.extract 0 (RNum s 0).1).size = (RNum s 0).1 := by rw [ByteArray.size_extract]; omega
        simp only [hsz]
        rw [ByteArray.append_assoc]
        have : (RNum s 0).2.1.extract 0 (RNum s 0).1 ++ (RNum s 0).2.1.extract (RNum s 0).1 (RNum s 0).2.1.size = (RNum s 0).2.1 := by
          apply ByteArray.ext
          simp
        rw [this]
        exact h2
theorem enc_inj (a b : Nat) (r r' : List UInt8) (ha : a < 18446744073709551616) (hb : b < 18446744073709551616) (h : enc a ++ r = enc b ++ r') : a = b ∧ r = r' := by
  have h1 := RNum_app a r ha
  have h2 := RNum_app b r' hb
  rw [h, h2] at h1
  simp only [Prod.mk.injEq, ByteArray.mk.injEq] at h1
  exact ⟨h1.1.symm, by simpa using h1.2.1.symm⟩
def runsL : List (Int × Int) → List UInt8
  | [] => []
  | r :: l => enc r.1.toNat ++ (enc r.2.toNat ++ runsL l)
theorem runsE_data (l : List (Int × Int)) : (runsE l).data.toList = runsL l := by
  induction l with
  | nil => rfl
  | cons r l ih =>
    show (rB r ++ runsE l).data.toList = _
    unfold rB eB
    simp only [ByteArray.data_append, Array.toList_append, ih]
    simp [runsL]
def allL (l : Lab) (z : Nat) : List UInt8 := enc l.id.toNat ++ (enc l.unit.toNat ++ (enc l.name.size ++ (l.name.data.toList ++ (enc l.note.size ++ (l.note.data.toList ++ (enc l.ext.length ++ (runsL l.ext ++ List.replicate z 0)))))))
theorem pad_data (l : Lab) : (padS 1024 (bodyE l ++ runsE l.ext)).data.toList = allL l (1024 - (bodyE l ++ runsE l.ext).size) := by
  unfold padS bodyE allL zeros eB
  simp only [ByteArray.data_append, Array.toList_append, runsE_data]
  simp
theorem runsL_inj : ∀ (a b : List (Int × Int)) (r r' : List UInt8), a.length = b.length → (∀ x ∈ a, 0 ≤ x.1 ∧ 0 ≤ x.2 ∧ x.1 + x.2 ≤ 128) → (∀ x ∈ b, 0 ≤ x.1 ∧ 0 ≤ x.2 ∧ x.1 + x.2 ≤ 128) → runsL a ++ r = runsL b ++ r' → a = b := by
  intro a
  induction a with
  | nil => intro b r r' hl _ _ _; exact (List.length_eq_zero_iff.1 hl.symm).symm
  | cons x a ih =>
    intro b r r' hl ha hb h
    cases b with
    | nil => cases hl
    | cons y b =>
      obtain ⟨x0, x1, x2⟩ := ha x (by simp)
      obtain ⟨y0, y1, y2⟩ := hb y (by simp)
      unfold runsL at h
      simp only [List.append_assoc] at h
      obtain ⟨e1, h⟩ := enc_inj _ _ _ _ (by omega) (by omega) h
      obtain ⟨e2, h⟩ := enc_inj _ _ _ _ (by omega) (by omega) h
      have := ih b r r' (by simpa using hl) (fun z hz => ha z (List.mem_cons_of_mem _ hz)) (fun z hz => hb z (List.mem_cons_of_mem _ hz)) h
      rw [this]
      congr 1
      exact Prod.ext (by omega) (by omega)
theorem bytes_eq {a b : ByteArray} (h : a.data.toList = b.data.toList) : a = b := by
  apply ByteArray.ext
  exact Array.toList_inj.1 h
theorem allL_inj (l k : Lab) (z z' : Nat) (hl : (1 ≤ l.id ∧ l.id ≤ 1099511627776 ∧ 0 ≤ l.unit ∧ l.unit ≤ 1099511627776) ∧ (l.name.size ≤ 31 ∧ l.note.size ≤ 400) ∧ (1 ≤ l.ext.length ∧ l.ext.length ≤ 16) ∧ jnB l = true)
    (hk : (1 ≤ k.id ∧ k.id ≤ 1099511627776 ∧ 0 ≤ k.unit ∧ k.unit ≤ 1099511627776) ∧ (k.name.size ≤ 31 ∧ k.note.size ≤ 400) ∧ (1 ≤ k.ext.length ∧ k.ext.length ≤ 16) ∧ jnB k = true) (h : allL l z = allL k z') : l = k := by
  obtain ⟨⟨a1, a2, a3, a4⟩, ⟨a5, a6⟩, ⟨a7, a8⟩, aj⟩ := hl
  obtain ⟨⟨b1, b2, b3, b4⟩, ⟨b5, b6⟩, ⟨b7, b8⟩, bj⟩ := hk
  have ja := jn_bd l aj
  have jb := jn_bd k bj
  obtain ⟨i1, u1, n1, t1, e1⟩ := l
  obtain ⟨i2, u2, n2, t2, e2⟩ := k
  simp only at *
  unfold allL at h
  simp only at h
  obtain ⟨q1, h⟩ := enc_inj _ _ _ _ (by omega) (by omega) h
  obtain ⟨q2, h⟩ := enc_inj _ _ _ _ (by omega) (by omega) h
  obtain ⟨q3, h⟩ := enc_inj _ _ _ _ (by omega) (by omega) h
  obtain ⟨q4, h⟩ := List.append_inj h (by rw [Array.length_toList, Array.length_toList]; exact q3)
  obtain ⟨q5, h⟩ := enc_inj _ _ _ _ (by omega) (by omega) h
  obtain ⟨q6, h⟩ := List.append_inj h (by rw [Array.length_toList, Array.length_toList]; exact q5)
  obtain ⟨q7, h⟩ := enc_inj _ _ _ _ (by omega) (by omega) h
  have q8 := runsL_inj _ _ _ _ q7 ja jb h
  rw [show i1 = i2 by omega, show u1 = u2 by omega, bytes_eq q4, bytes_eq q6, q8]
theorem encS_valid (l : Lab) (t : Int) (h : validL l t = true) : encS l t = padS 1024 (bodyE l ++ runsE l.ext) := by
  have hz : eqL l labZ = false := by
    obtain ⟨⟨v1, _⟩, _⟩ := valid_facts l t h
    unfold eqL labZ
    simp only
    rw [show (l.id == 0) = false from beq_eq_false_iff_ne.2 (by omega)]
    rfl
  unfold encS
  rw [if_neg (by rw [hz]; simp), if_pos h]
theorem eqL_iff (l k : Lab) : eqL l k = true ↔ l = k := by
  obtain ⟨i1, u1, n1, t1, e1⟩ := l
  obtain ⟨i2, u2, n2, t2, e2⟩ := k
  unfold eqL
  simp only [Bool.and_eq_true, beq_iff_eq, decide_eq_true_eq, Lab.mk.injEq]
  constructor
  · rintro ⟨h1, h2, h3, h4, h5⟩
    exact ⟨h1, h2, bytes_eq (by simpa [ByteArray.toList_eq] using h3), bytes_eq (by simpa [ByteArray.toList_eq] using h4), h5⟩
  · rintro ⟨rfl, rfl, rfl, rfl, rfl⟩
    exact ⟨rfl, rfl, rfl, rfl, rfl⟩
theorem encS_inj (l k : Lab) (t : Int) (hl : validL l t = true) (hk : validL k t = true) (h : encS l t = encS k t) : l = k := by
  rw [encS_valid l t hl, encS_valid k t hk] at h
  have h2 := congrArg (fun s : ByteArray => s.data.toList) h
  simp only [pad_data] at h2
  exact allL_inj l k _ _ (valid_facts l t hl) (valid_facts k t hk) h2
end Go.Proofs.Ytkiciojipiakoaa
