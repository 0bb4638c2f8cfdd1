/- Chapter 6: the reference's Free; Largest on both sides. -/
import Derived.Test.YtenbcjlikoajdaaSpcR
namespace Go.Proofs.Ytenbcjlikoajdaa
set_option linter.unusedVariables false
set_option linter.unusedSimpArgs false
set_option linter.unusedSectionVars false
open Go.RowKit
def oneL (first last : Int) (j : Nat) : List (Nat × Nat) := ((List.range j).filter (freeB first last)).map fun t => (t, 1)
theorem oneL_succ (first last : Int) (j : Nat) : oneL first last (j + 1) = oneL first last j ++ (if freeB first last j = true then [(j, 1)] else []) := by
  unfold oneL
  rw [List.range_succ, List.filter_append, List.map_append]
  congr 1
  cases h : freeB first last j <;> simp [h]
theorem oneL_len (first last : Int) (j : Nat) : (oneL first last j).length ≤ j := by
  unfold oneL
  rw [List.length_map]
  have := List.length_filter_le (freeB first last) (List.range j)
  rwa [List.length_range] at this
theorem oneL_bd (first last : Int) (j : Nat) : ∀ r ∈ oneL first last j, r.1 + r.2 ≤ j := by
  intro r hr
  unfold oneL at hr
  obtain ⟨t, ht, rfl⟩ := List.mem_map.1 hr
  have := List.mem_range.1 (List.mem_filter.1 ht).1
  show t + 1 ≤ j
  omega
theorem seqL_ones (l : List Nat) : seqL (l.map fun t => (t, 1)) = l := by
  induction l with
  | nil => rfl
  | cons t l ih =>
    rw [List.map_cons, seqL_cons, ih]
    rfl
theorem oneL_mem (first last : Int) (i : Nat) (hi : i < 128) : memS (ints (oneL first last 128)) i = freeB first last i := by
  have h1 := mem_seqS (ints (oneL first last 128)) i
  rw [seqS_ints _ (oneL_bd first last 128)] at h1
  unfold oneL at h1
  rw [seqL_ones] at h1
  cases h : freeB first last i with
  | true => exact h1.1 (List.mem_filter.2 ⟨List.mem_range.2 hi, h⟩)
  | false =>
    cases h2 : memS (ints (oneL first last 128)) i with
    | false => rfl
    | true =>
      have := (List.mem_filter.1 (h1.2 h2)).2
      rw [h] at this; cases this
section
variable {A : Option Addr} {c m : Nat} {l : List (Int × Int)} {w : World}
set_option maxRecDepth 100000 in
set_option maxHeartbeats 4000000 in
theorem rfree_val (hn : m = l.length) (hl : l.length ≤ 1000) (hr : RunsAt w w.heap.size A l) (first last : Int) (f0 : -9223372036854775808 ≤ first) (f1 : first ≤ 9223372036854775807) (t0 : -9223372036854775808 ≤ last) (t1 : last ≤ 9223372036854775807) (k : List (Int × Int)) (hk : freeS first last l = k) :
    Calls Try.prog 32 #[.int .i64 first, .int .i64 last, .slice A m c] w fun e w' => ∃ A c, e = .returned (.slice A k.length c) ∧ RunsAt w' w'.heap.size A k ∧ Grew w w' := by
  subst hn
  have HK := Lib.hid (show ints (normS fun i => memS (ints (oneL first last 128)) i && !memS l i) = k from by
    rw [← hk]
    unfold freeS
    congr 1
    exact normS_congr (fun i hi => by rw [oneL_mem first last i hi]))
  have HR := Lib.hid hr
  clear hk hr
  go_enter Try.func32, Try.ntmps32
  go_wp2_with fail
  go_loopg [7, 8] 128 (fun gk ov i wr => ∃ j : Nat, j ≤ 128 ∧ gk = 128 - j ∧ i = .int .i64 (j : Int) ∧ OwnL wr w.heap.size 25 2 ov ((oneL first last j).map rowN) ∧ Grew w wr)
  case atStart => exact ⟨0, by omega, by omega, rfl, OwnL.empty _ _ _ _ (Nat.le_refl _) rfl, by (repeat' first | (with_reducible exact Grew.refl _) | (with_reducible assumption) | (with_reducible refine Grew.alloc ?_ _) | (with_reducible refine Grew.drew ?_) | (with_reducible refine Grew.drewN ?_ _) | (with_reducible refine Grew.setRow ?_ (by first | (simp; done) | (simp; omega) | omega) _) | (with_reducible refine Grew.setCell ?_ (by first | (simp; done) | (simp; omega) | omega) _) | ((with_reducible apply Grew.trans); rotate_left; (with_reducible assumption)) | ((with_reducible apply Grew.turn); rotate_left; (with_reducible assumption); (focus (intro i hi; first | omega | (simp at hi; omega)))) | fail)⟩
  case round =>
    obtain ⟨j, hj, hgk, rfl, hown, hg⟩ := hrel
    have HGK := Lib.hid hgk
    clear hgk
    have hol := oneL_len first last j
    have hgs := hg.size
    by_cases hlt : j < 128
    · have HSU := Lib.hid (oneL_succ first last j)
      by_cases hab : first ≤ (j : Int) ∧ (j : Int) < last
      · have HF := Lib.hid (HSU.out.trans (by rw [if_pos (show freeB first last j = true from decide_eq_true hab)]))
        obtain ⟨ha, hb⟩ := hab
        generalize oneL first last j = out at *
        clear HSU
        go_wp2_with (at_builtin; refine wpList_push rfl _ _ 22 rfl w.heap.size 25 2 16 _ Try.underlying22 info_run rfl (by decide) wr _ (out.map rowN) (rowN (j, 1)) (by rfl) rfl rfl hown (by first | rfl | (simp; done)) rfl rfl (by rw [List.length_map]; omega) (by rw [List.length_map]; omega) hg.size ?_; intro v' w5 hown3 hgr hbk hsz)
        go_roundg (128 - (j + 1))
        case measure => rw [HGK.out]; omega
        case rel => exact ⟨j + 1, by omega, by omega, by go_num, by rw [HF.out, List.map_append]; exact hown3, hgr _ hg (Nat.le_refl _)⟩
      · have HF := Lib.hid (HSU.out.trans (by rw [if_neg (by unfold freeB; rw [decide_eq_false hab]; simp), List.append_nil]))
        clear HSU
        by_cases ha : first ≤ (j : Int)
        · have hb : ¬ (j : Int) < last := fun h => hab ⟨ha, h⟩
          clear hab
          go_wp2_with fail
          go_roundg (128 - (j + 1))
          case measure => rw [HGK.out]; omega
          case rel => exact ⟨j + 1, by omega, by omega, by go_num, by rw [HF.out]; exact hown, hg⟩
        · clear hab
          go_wp2_with fail
          go_roundg (128 - (j + 1))
          case measure => rw [HGK.out]; omega
          case rel => exact ⟨j + 1, by omega, by omega, by go_num, by rw [HF.out]; exact hown, hg⟩
    · obtain rfl : j = 128 := by omega
      have hbd := oneL_bd first last 128
      obtain ⟨A', c', hv, hr', _, _, _⟩ := own_runs2 hown (fun r hr => Nat.le_trans (hbd r hr) (by omega))
      subst hv
      have hrl := HR.out.hold hg
      have hm := rminus_val (c1 := c') (c2 := c) rfl rfl (by rw [ints_len]; omega) (by omega) hr' hrl k HK.out
      rw [ints_len] at hm
      have HM := Lib.hid hm
      clear hm hown hr' hrl hbd
      go_wp2_with fail
      refine HM.out.mono ?_
      rintro e w4 ⟨A4, c4, rfl, r4, g4⟩
      go_wp2_with fail
      go_ret
      exact ⟨_, _, rfl, r4, hg.trans g4⟩
end
def maxL (l : List (Nat × Nat)) : Nat := l.foldl (fun m r => max m r.2) 0
theorem maxL_snoc (l : List (Nat × Nat)) (k : Nat) (h : k < l.length) : maxL (l.take (k + 1)) = max (maxL (l.take k)) l[k].2 := by
  unfold maxL; rw [List.take_succ_eq_append_getElem h, List.foldl_append]; rfl
theorem fold_max : ∀ (l : List (Nat × Nat)) (b : Nat), b ≤ l.foldl (fun m r => max m r.2) b ∧ (∀ r ∈ l, r.2 ≤ l.foldl (fun m r => max m r.2) b) ∧ (l.foldl (fun m r => max m r.2) b = b ∨ ∃ r ∈ l, r.2 = l.foldl (fun m r => max m r.2) b) := by
  intro l
  induction l with
  | nil => intro b; exact ⟨Nat.le_refl _, fun r hr => (List.not_mem_nil hr).elim, .inl rfl⟩
  | cons x l ih =>
    intro b
    obtain ⟨h1, h2, h3⟩ := ih (max b x.2)
    have h1' : max b x.2 ≤ List.foldl (fun m r => max m r.2) b (x :: l) := h1
    refine ⟨by omega, fun r hr => ?_, ?_⟩
    · rcases List.mem_cons.1 hr with rfl | hr
      · omega
      · exact h2 r hr
    · rcases h3 with h3 | ⟨r, hr, h3⟩
      · by_cases hb : x.2 ≤ b
        · left; show l.foldl _ (max b x.2) = b; rw [h3]; omega
        · right; exact ⟨x, List.mem_cons_self .., by show x.2 = l.foldl _ (max b x.2); rw [h3]; omega⟩
      · exact .inr ⟨r, List.mem_cons_of_mem _ hr, h3⟩
theorem maxL_le (l : List (Nat × Nat)) (h : ∀ r ∈ l, r.1 + r.2 ≤ 128) : maxL l ≤ 128 := by
  rcases (fold_max l 0).2.2 with h0 | ⟨r, hr, h0⟩
  · unfold maxL; omega
  · have := h r hr; unfold maxL; omega
theorem maxL_head (S : Nat → Bool) : sortS (normS S) = [] ∧ maxL (normS S) = 0 ∨ ∃ h t, sortS (normS S) = h :: t ∧ maxL (normS S) = h.2 := by
  cases hs : sortS (normS S) with
  | nil =>
    left
    refine ⟨rfl, ?_⟩
    have := (sortS_perm _ (normS_cnt S) (normS_asc S)).length_eq
    rw [hs, List.length_nil] at this
    rw [List.eq_nil_of_length_eq_zero this]
    rfl
  | cons h t =>
    right
    refine ⟨h, t, rfl, ?_⟩
    have hsrt := sortS_sorted _ (normS_asc S)
    rw [hs] at hsrt
    have hm : ∀ r, r ∈ h :: t ↔ r ∈ normS S := fun r => by rw [← hs]; exact mem_sortS _ (normS_cnt S) r
    obtain ⟨_, h2, h3⟩ := fold_max (normS S) 0
    have hh : h.2 ≤ maxL (normS S) := h2 h ((hm h).1 (List.mem_cons_self ..))
    rcases h3 with h3 | ⟨r, hr, h3⟩
    · have : maxL (normS S) = 0 := h3
      omega
    · have h4 : r.2 = maxL (normS S) := h3
      rcases List.mem_cons.1 ((hm r).2 hr) with rfl | hrt
      · omega
      · have h5 := (List.pairwise_cons.1 hsrt).1 r hrt
        unfold ltR at h5
        omega
end Go.Proofs.Ytenbcjlikoajdaa
