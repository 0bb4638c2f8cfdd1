/- Chapter 6, plain: what Extend returns. -/
import Derived.Test.YtenbcjlikoajdaaSpcAB
import Derived.Test.YtenbcjlikoajdaaSpcX
import Derived.Test.YtenbcjlikoajdaaExtLB
namespace Go.Proofs.Ytenbcjlikoajdaa
set_option linter.unusedVariables false
set_option linter.unusedSimpArgs false
set_option linter.unusedSectionVars false
open Go.RowKit
theorem seqN_split (a b k : Nat) : seqN (a, b + k) = seqN (a, b) ++ seqN (a + b, k) := by
  have h1 := seqN_take a (b + k) b
  have h2 := seqN_drop a (b + k) b
  have h3 := List.take_append_drop b (seqN (a, b + k))
  rw [h1, h2, Nat.min_eq_left (by omega), show b + k - b = k by omega] at h3
  exact h3.symm
theorem seqN_nodup (r : Nat × Nat) : (seqN r).Nodup := by
  unfold seqN
  exact List.Pairwise.map _ (fun a b h => by omega) List.nodup_range
theorem extL_seq (I : List (Nat × Nat)) (x : Nat × Nat) (k : Nat) : seqL (extL I x k) = seqL (I ++ [x]) ++ seqN (x.1 + x.2, k) := by
  unfold extL
  rw [seqL_append, seqL_append, seqL_one, seqL_one, seqN_split, List.append_assoc]
theorem memL (l : List (Nat × Nat)) (h : ∀ r ∈ l, r.1 + r.2 ≤ 128) (t : Nat) : memS (ints l) t = true ↔ t ∈ seqL l := by
  rw [← mem_seqS, seqS_ints l h]
theorem extS_err (e f : List (Int × Int)) (n : Int) (h : (extS e f n).2 ≠ 0) : (extS e f n).1 = [] := by
  rcases extS_cases e f n with h0 | ⟨I, x, k, hL, _, _, _, _, h0⟩
  · rw [h0]
  · rw [h0] at h ⊢
    unfold extG at h ⊢
    split
    · rename_i hc; rw [if_pos hc] at h; exact absurd rfl h
    · rename_i hc
      rw [if_neg hc] at h
      split
      · rfl
      · rename_i hd
        rw [if_neg hd] at h
        split
        · rfl
        · rename_i hz
          rw [if_neg hz] at h; exact absurd rfl h
theorem ext_ok (e f : List (Int × Int)) (n : Int) (h : (extS e f n).2 = 0) :
    ∃ M : List Nat, seqS (ints (extS e f n).1) = seqS e ++ M ∧ ((M.length : Nat) : Int) = n ∧ 1 ≤ n ∧ n ≤ 128 ∧ M.Nodup ∧ (∀ t ∈ M, memS f t = true ∧ memS e t = false) ∧ 1 ≤ sizeS e ∧ ((extS e f n).1.length ≤ (joinS e).length ∨ (extS e f n).1.length ≤ 16) ∧ (extS e f n).1.length ≤ 1000 + e.length := by
  rcases extS_cases e f n with h0 | ⟨I, x, k, hL, hn1, hk, hall, hend, h0⟩
  · rw [h0] at h; exact absurd h (by decide)
  · have hJ : seqL (I ++ [x]) = seqS e := by rw [← hL, ← seqS_joinS e, seqS_ints _ (joinS_bd e)]
    have hIb : ∀ r ∈ I ++ [x], r.1 + r.2 ≤ 128 := by rw [← hL]; exact joinS_bd e
    have hEb := ext_bd I x _ k hIb hall
    have hme : ∀ t, memS (ints (I ++ [x])) t = memS e t := fun t => by
      rw [Bool.eq_iff_iff, memL _ hIb, hJ, mem_seqS]
    have hF : ∀ t, memS (ints (extF (I ++ [x]) f)) t = true → memS f t = true ∧ memS e t = false := fun t ht => by
      have hlt := memS_lt _ _ ht
      unfold extF at ht
      rw [memS_normS _ t hlt, hme, Bool.and_eq_true, Bool.not_eq_true'] at ht
      exact ht
    have hN : ∀ t ∈ seqN (x.1 + x.2, k), memS f t = true ∧ memS e t = false := fun t ht => by
      obtain ⟨h1, h2⟩ := (mem_seqN _ t).1 ht
      simp only at h1 h2
      have := hall (t - (x.1 + x.2)) (by omega)
      rw [show x.1 + x.2 + (t - (x.1 + x.2)) = t by omega] at this
      exact hF t this
    have hx2 : 1 ≤ sizeS e := by
      have hpos : 0 < (seqS e).length := by
        rw [joinS_seq] at hL
        cases hs : seqS e with
        | nil => rw [hs] at hL; simp [joinT] at hL
        | cons a b => simp
      rw [seqS_len] at hpos; exact hpos
    have hJl := joinS_len e
    have hl : (joinS e).length = I.length + 1 := by rw [hL, List.length_append, List.length_singleton]
    have hcount : ∀ M : List Nat, M.Nodup → (∀ t ∈ M, memS f t = true ∧ memS e t = false) → M.length ≤ 128 := fun M h1 h2 => by
      have h3 := (count_nodup M 128 (fun t ht => memS_lt _ _ (h2 t ht).1)).2 h1
      have := List.length_filter_le (fun i => decide (i ∈ M)) (List.range 128)
      rw [List.length_range, h3] at this
      exact this
    rw [h0] at h ⊢
    unfold extG at h ⊢
    split
    · rename_i hc
      have hkn : k = n.toNat := by omega
      have hnd := seqN_nodup (x.1 + x.2, k)
      have hM := hcount _ hnd hN
      rw [seqN_len] at hM
      refine ⟨seqN (x.1 + x.2, k), ?_, by rw [seqN_len]; show ((k : Nat) : Int) = n; omega, hn1, by simp only at hM; omega, hnd, hN, hx2, ?_, ?_⟩
      · show seqS (ints (extL I x k)) = _
        rw [seqS_ints _ hEb, extL_seq, hJ]
      · left; unfold extL; rw [List.length_append, List.length_singleton, hl]; exact Nat.le_refl _
      · unfold extL; rw [List.length_append, List.length_singleton]; omega
    · rename_i hc
      rw [if_neg hc] at h
      split
      · rename_i hd; rw [if_pos hd] at h; exact absurd h (by decide)
      · rename_i hd
        rw [if_neg hd] at h
        split
        · rename_i hz; rw [if_pos hz] at h; exact absurd h hz
        · rename_i hz
          obtain ⟨y, hy, hlm, hsz, hnd, hin, hyb⟩ : ∃ y, extA I x f n.toNat k = (y, 0) ∧ ((y.length : Nat) : Int) ≤ 16 - ((I.length : Int) + 1) ∧ ((sizeS (ints y) : Nat) : Int) = ((n.toNat - k : Nat) : Int) ∧ (seqS (ints y)).Nodup ∧ (∀ i, memS (ints y) i = true → memS (ints (extF (extL I x k) (ints (extF (I ++ [x]) f)))) i = true) ∧ ∀ r ∈ y, r.1 + r.2 ≤ 128 := by
            rcases alloc_ok (ints (extF (extL I x k) (ints (extF (I ++ [x]) f)))) ((n.toNat - k : Nat) : Int) (16 - ((I.length : Int) + 1)) (by omega) (by omega) with hy | ⟨hy, _⟩
            · exact hy
            · exfalso; apply hz; intro h9; unfold extA at h9; rw [hy] at h9; exact absurd h9 (by decide)
          have hYf : ∀ t, t ∈ seqL y → memS (ints (extF (I ++ [x]) f)) t = true ∧ memS (ints (extL I x k)) t = false := fun t ht => by
            have h1 := hin t ((memL y hyb t).2 ht)
            have hlt := memS_lt _ _ h1
            unfold extF at h1
            rw [memS_normS _ t hlt, Bool.and_eq_true, Bool.not_eq_true'] at h1
            exact h1
          rw [hy]
          have hM2 : ∀ t ∈ seqN (x.1 + x.2, k) ++ seqL y, memS f t = true ∧ memS e t = false := fun t ht => by
            rcases List.mem_append.1 ht with ht | ht
            · exact hN t ht
            · exact hF t (hYf t ht).1
          have hnd2 : (seqN (x.1 + x.2, k) ++ seqL y).Nodup := by
            rw [List.nodup_append]
            refine ⟨seqN_nodup _, by rw [← seqS_ints y hyb]; exact hnd, fun a ha b hb hab => ?_⟩
            subst hab
            have h2 := (hYf a hb).2
            have h3 : memS (ints (extL I x k)) a = true := by
              rw [memL _ hEb, extL_seq]; exact List.mem_append_right _ ha
            rw [h2] at h3; cases h3
          have hlen : (seqN (x.1 + x.2, k) ++ seqL y).length = n.toNat := by
            rw [List.length_append, seqN_len, ← seqS_ints y hyb, seqS_len]
            show k + _ = _
            omega
          have hMc := hcount _ hnd2 hM2
          refine ⟨seqN (x.1 + x.2, k) ++ seqL y, ?_, by rw [hlen]; omega, hn1, by omega, hnd2, hM2, hx2, ?_, ?_⟩
          · show seqS (ints (joinS (ints (extL I x k ++ y)))) = _
            rw [seqS_joinS, ints_append, seqS_append, seqS_ints _ hEb, seqS_ints y hyb, extL_seq, hJ, List.append_assoc]
          · right
            refine Nat.le_trans (joinS_len _) ?_
            rw [ints_len, List.length_append]
            unfold extL
            rw [List.length_append, List.length_singleton]
            show _ + y.length ≤ _
            omega
          · refine Nat.le_trans (joinS_len _) ?_
            rw [ints_len, List.length_append]
            unfold extL
            rw [List.length_append, List.length_singleton]
            show _ + y.length ≤ _
            omega
/-- Cut again where the new tracks begin. -/
theorem keep_facts (e f K : List (Int × Int)) (n : Int) (M : List Nat) (s : Nat) (hs : sizeS e = s) (hK : seqS K = seqS e ++ M) (hn : ((M.length : Nat) : Int) = n) (hn1 : 1 ≤ n) (hs1 : 1 ≤ s) (hnd : M.Nodup) (hM : ∀ t ∈ M, memS f t = true ∧ memS e t = false) :
    ((sizeS K : Nat) : Int) = (s : Int) + n ∧ joinS (ints (cutA K s)) = joinS e ∧ seqS (ints (joinS (ints (cutB K s)))) = M ∧
    (normS fun i => memS (ints (joinS (ints (cutB K s)))) i && !memS f i) = [] ∧ (normS fun i => memS (ints (joinS (ints (cutB K s)))) i && memS e i) = [] ∧
    relE K (s : Int) = 0 ∧ relA K (s : Int) = ints (joinS e) ∧ relB K (s : Int) = ints (normS (memS (ints (joinS (ints (cutB K s)))))) := by
  have hle : (seqS e).length = s := by rw [seqS_len, hs]
  have h1 : sizeS K = s + M.length := by rw [← seqS_len, hK, List.length_append, hle]
  have hA : joinS (ints (cutA K s)) = joinS e := by
    rw [joinS_seq, seq_cutA, hK, List.take_left' hle, ← joinS_seq]
  have hB : seqS (ints (joinS (ints (cutB K s)))) = M := by rw [seqS_joinS, seq_cutB, hK, List.drop_left' hle]
  have hmB : ∀ i, memS (ints (joinS (ints (cutB K s)))) i = true → i ∈ M := fun i hi => by rw [← hB]; exact (mem_seqS _ i).2 hi
  have hc : ¬ ((s : Int) < 1 ∨ (sizeS K : Int) < (s : Int)) := by omega
  refine ⟨by omega, hA, hB, normS_false (fun i _ => ?_), normS_false (fun i _ => ?_), by unfold relE; rw [if_neg hc], by unfold relA; rw [if_neg hc, Int.toNat_natCast, hA], ?_⟩
  · cases hm : memS (ints (joinS (ints (cutB K s)))) i with
    | false => rfl
    | true => rw [(hM i (hmB i hm)).1]; rfl
  · cases hm : memS (ints (joinS (ints (cutB K s)))) i with
    | false => rfl
    | true => rw [(hM i (hmB i hm)).2]; rfl
  · unfold relB
    rw [if_neg hc, Int.toNat_natCast]
    congr 1
    refine normS_congr (fun i _ => ?_)
    cases hm : memS (ints (joinS (ints (cutB K s)))) i with
    | false => rfl
    | true =>
      have h2 := (hM i (hmB i hm)).2
      have h3 : memS (ints (joinS (ints (cutA K s)))) i = memS e i := by
        rw [Bool.eq_iff_iff, ← mem_seqS, ← mem_seqS, hA, seqS_joinS]
      rw [h3, h2]; rfl
end Go.Proofs.Ytenbcjlikoajdaa
