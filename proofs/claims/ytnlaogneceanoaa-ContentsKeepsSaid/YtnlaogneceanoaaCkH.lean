/- Chapter 8: Free, whose result is the call's own. Chapter 6, plain: what Extend returns. Chapter 8: what is joined stays joined, and what lies within a volume, plain. Chapter 8: Extend and Release of chapter 6, once more: what they return is new. Chapter 8: what the changes do with a label. Chapter 8: what Replace and Confirm do with a label. -/
import Derived.Test.YtnlaogneceanoaaCkC
import Derived.Test.YtnlaogneceanoaaCkF
import Derived.Test.YtnlaogneceanoaaCkG
namespace Go.Proofs.Ytnlaogneceanoaa
set_option linter.unusedVariables false
set_option linter.unusedSimpArgs false
set_option linter.unusedSectionVars false
open Go.RowKit
attribute [local go_sem ↓] Go.wp_at_zero Go.wp_at_succ
section
variable {A : Option Addr} {c m : Nat} {l : List (Int × Int)} {w : World}
set_option maxRecDepth 100000 in
set_option maxHeartbeats 4000000 in
theorem free_own (hn : m = l.length) (hl : l.length ≤ 1000) (hr : RunsAt w w.heap.size A l) (first last : Int) (f0 : -9223372036854775808 ≤ first) (f1 : first ≤ 9223372036854775807) (t0 : -9223372036854775808 ≤ last) (t1 : last ≤ 9223372036854775807) (k : List (Int × Int)) (hk : freeS first last l = k) :
    Calls Try.prog 53 #[.int .i64 first, .int .i64 last, .slice A m c] w fun e w' => ∃ v, e = .returned v ∧ OwnL w' w.heap.size 58 2 v (k.map runC) ∧ Grew w w' := by
  subst hn
  have hG := Grew.refl w
  obtain ⟨a, ha⟩ : ∃ a : Nat, max (0 : Int) first = (a : Int) := ⟨first.toNat, by omega⟩
  obtain ⟨b, hb⟩ : ∃ b : Int, min (128 : Int) last = b := ⟨_, rfl⟩
  by_cases h1 : b ≤ (a : Int)
  · have hk0 : k = [] := by
      rw [← hk]
      unfold freeS
      rw [normS_false (fun i hi => by
        show (freeB first last i && !memS l i) = false
        unfold freeB
        rw [decide_eq_false (by omega), Bool.false_and])]
      rfl
    subst hk0
    clear hk
    go_enter Try.func53, Try.ntmps53
    go_wp2_with fail
    go_ret
    exact ⟨_, rfl, OwnL.nil _ _ _ _, hG⟩
  · obtain ⟨d, hd⟩ : ∃ d : Nat, b - (a : Int) = (d : Int) := ⟨(b - a).toNat, by omega⟩
    have hd0 : 0 < d := by omega
    have hd1 : a + d ≤ 128 := by omega
    have HK := Lib.hid (show ints (normS fun i => memS [((a : Int), (d : Int))] i && !memS l i) = k from by
      rw [← hk]
      unfold freeS
      congr 1
      refine normS_congr (fun i hi => ?_)
      show (memS [((a : Int), (d : Int))] i && !memS l i) = (freeB first last i && !memS l i)
      rw [mem_one a d hd1 hd0]
      unfold freeB
      congr 1
      rw [decide_eq_decide]
      omega)
    have r8 : RunsAt (w.alloc (.cells #[.int .i64 (a : Int), .int .i64 (d : Int)] 58)) (w.alloc (.cells #[.int .i64 (a : Int), .int .i64 (d : Int)] 58)).heap.size (some ⟨w.heap.size, 0, none⟩) [((a : Int), (d : Int))] := blk_runs (Blk.new w _ _ rfl) rfl (by intro r hr; rw [List.mem_singleton.1 hr]; unfold okRun; simp only; omega)
    have gal := (Grew.refl w).alloc (.cells #[.int .i64 (a : Int), .int .i64 (d : Int)] 58)
    replace hr := hr.hold gal
    have hG := gal
    have hw := (show IntKind.i64.wrap (b - (a : Int)) = (d : Int) from by rw [IntKind.wrap_i64]; omega)
    clear gal hk
    go_enter Try.func53, Try.ntmps53
    go_wp2_with fail
    refine (minus_any _ _ 1 c _ l _ _ (Nat.le_refl _) (by simp) (by omega) r8 hr).mono ?_
    rintro e ws ⟨v3, rfl, r3, gs⟩
    go_wp2_with fail
    go_ret
    rw [← ints_rows, HK.out] at r3
    exact ⟨_, rfl, r3.mono (by simp), hG.trans gs⟩
end
set_option maxRecDepth 100000 in
set_option maxHeartbeats 4000000 in
theorem free_tabO (A : Option Addr) (c : Nat) (xs : List LabE) (T : Tab) (w : World) (h : TabAt w A c xs T) (hs : SmallT T) (n : Nat) (hn : n = T.labels.length) (kf : List (Int × Int)) (hkf : freeT T = kf) :
    Calls Try.prog 23 #[.agg #[.string T.name, .int .i64 T.tracks, .slice A n c]] w fun e w' => ∃ v, e = .returned v ∧ OwnL w' w.heap.size 58 2 v (kf.map runC) ∧ Grew w w' := by
  subst hn; subst hkf
  have hg0 := (Grew.refl w).alloc (.cells #[.string T.name, .int .i64 T.tracks, .slice A T.labels.length c] 34)
  have HB0 := Lib.hid (Blk.new w 34 #[.string T.name, .int .i64 T.tracks, .slice A T.labels.length c] rfl)
  have HV := Lib.hid (valid_tab A c xs T _ (h.hold hg0) hs _ rfl)
  have HTB := Lib.hid h
  have HS := Lib.hid hs
  have HG0 := Lib.hid hg0
  have htr0 := h.tr0
  have htr1 := h.tr1
  clear h hs hg0
  cases hv : validT T with
  | false =>
    have HE := Lib.hid (show freeT T = [] from by unfold freeT; rw [hv]; rfl)
    have HVF := Lib.hid hv
    clear hv
    go_enter Try.func23, Try.ntmps23
    go_wp2_with fail
    refine HV.out.mono ?_
    rintro e w1 ⟨rfl, g1⟩
    rw [HVF.out]
    go_wp2_with fail
    go_ret
    exact ⟨_, rfl, by rw [HE.out]; exact OwnL.nil _ _ _ _, HG0.out.trans g1⟩
  | true =>
    obtain ⟨hn31, hx496, hall⟩ := validT_facts T hv
    have HFR := Lib.hid (show freeS (ttS T.tracks) T.tracks (extsL T.labels) = freeT T from by unfold freeT; rw [if_pos hv])
    have HVF := Lib.hid hv
    have HAL := Lib.hid hall
    clear hv hall
    go_enter Try.func23, Try.ntmps23
    go_wp2_with fail
    refine HV.out.mono ?_
    rintro e w1 ⟨rfl, g1⟩
    rw [HVF.out]
    have hb1 := HB0.out.grew g1
    have hg1 := HG0.out.trans g1
    have x2 := hb1.cell 2
    have hl1 := hb1.lt
    clear g1
    go_wp2_with fail
    go_loopg [3, 12] T.labels.length (fun gk ov i wr => ∃ k : Nat, k ≤ T.labels.length ∧ gk = T.labels.length - k ∧ i = .int .i64 k ∧ OwnL wr w.heap.size 58 2 ov ((extsL (T.labels.take k)).map runC) ∧ Blk wr w.heap.size 34 #[.string T.name, .int .i64 T.tracks, .slice A T.labels.length c] ∧ (extsL (T.labels.take k)).length ≤ 16 * k ∧ Grew w wr)
    case atStart => exact ⟨0, by omega, by omega, rfl, OwnL.nil _ _ _ _, hb1, by simp [extsL], hg1⟩
    case round =>
      obtain ⟨k, hk, hgk, rfl, hown, hb, hxl, hg⟩ := hrel
      have HGK := Lib.hid hgk
      have HOWN := Lib.hid hown
      have HB := Lib.hid hb
      have HG := Lib.hid hg
      have hbl0 := hb.lt
      have hgs := hg.size
      clear hgk x2 hb1
      by_cases hlt : k < T.labels.length
      · obtain ⟨b, off, B, d, l, rfl, hbl, hxk, hv, hla, c0, c1, c2, c3, c4⟩ := (HTB.out.hold hg).at_ hlt
        have hle := (HAL.out T.labels[k] (List.getElem_mem hlt)).1
        rw [hv] at hle
        have hes := extsL_snoc T.labels k hlt
        rw [hv] at hes
        have HES := Lib.hid hes
        have hgl : Grew wr (wr.alloc (.cells #[.int .i64 l.id, .int .i64 l.unit, .string l.name, .string l.note, .slice B l.ext.length d] 24)) := (Grew.refl wr).alloc _
        have hr2 := ((hla.hold hgl).runs.2.mono (Nat.le_refl _))
        have hown2 := hown.alloc (.cells #[.int .i64 l.id, .int .i64 l.unit, .string l.name, .string l.note, .slice B l.ext.length d] 24)
        have hge := hown.row_ge
        have n3 := hown.ne_blk hb (by decide)
        have hb2 := hb.alloc (.cells #[.int .i64 l.id, .int .i64 l.unit, .string l.name, .string l.note, .slice B l.ext.length d] 24)
        have hg2 := hg.alloc (.cells #[.int .i64 l.id, .int .i64 l.unit, .string l.name, .string l.note, .slice B l.ext.length d] 24)
        clear hv hxk hla hes hgl hown hb hg
        go_wp2_with (at_builtin; refine wpList_pushAll (by rfl) _ _ 22 rfl w.heap.size 58 2 16 _ Try.underlying22 info_run rfl (by decide) _ _ (l.ext.map runC) (by rfl) hown2 B l.ext.length _ (by rfl) (by rw [List.length_map]) (map_one_len _) hr2 (map_one_one _) (by rw [List.length_map]; omega) (by rw [List.length_map]; omega) (by simp; omega) ?_; intro v1 w3 hown3 hgr3 hat3)
        have HO3 := Lib.hid hown3
        have HB3 := Lib.hid (hb2.own hgr3 n3)
        have HG3 := Lib.hid (hg2.own hgr3 hge (Nat.le_refl _))
        clear hown3 hgr3 hat3 hb2 hg2 hown2 hr2
        go_roundg (T.labels.length - (k + 1))
        case measure => rw [HGK.out]; omega
        case rel => exact ⟨k + 1, by omega, by omega, by go_num, by rw [HES.out, List.map_append]; exact HO3.out, HB3.out, by rw [HES.out, List.length_append]; omega, HG3.out⟩
      · have hkn : k = T.labels.length := by omega
        subst hkn
        rw [List.take_length] at hown hxl
        obtain ⟨Ar, cr, hvr, hlr, hcr, hrr⟩ := own_runsL hown (HTB.out.okruns)
        subst hvr
        have HF := Lib.hid (fun w9 (g9 : Grew wr w9) => free_own (A := Ar) (c := cr) (w := w9) rfl (by omega) (hrr.hold g9) (ttS T.tracks) T.tracks (ttS_i64 _).1 (ttS_i64 _).2 htr0 htr1 _ HFR.out)
        have hS : (fun w' : World => w'.cell? ⟨w.heap.size, 1, none⟩ = some (.int .i64 T.tracks)) wr.drew := hb.drew.cell 1
        clear hown hrr hb hg hlt
        go_wp2_with fail
        refine wp_region_R [] (fun w' : World => w'.cell? ⟨w.heap.size, 1, none⟩ = some (.int .i64 T.tracks)) (by kernel_rfl) ?_
        refine wpAnyR_takeQ (i := 0) (v := ?_) (some 21) rfl rfl (by kernel_rfl) (by kernel_rfl) (by kernel_rfl) (by kernel_rfl) (fun _ _ _ h => h) (Or.inl ⟨by rfl, ?_⟩) ?_
        rotate_left
        focus (intro wS hSw; (try dsimp only at hSw); go_simp; (try with_reducible rfl); (try (first | (rw [if_pos (by omega)]; (try go_simp); (try with_reducible rfl)) | (rw [if_neg (by omega)]; (try go_simp); (try with_reducible rfl)))))
        try simp only [Act.put, zA, zB, zC]
        refine wpAnyR_take (i := 1) (v := ?_) [2, 6, 7] (some 22) rfl rfl (by kernel_rfl) (by kernel_rfl) (by kernel_rfl) (by kernel_rfl) (by kernel_rfl) (by kernel_rfl) (by kernel_rfl) (fun _ _ _ h => h) (Or.inl ⟨by rfl, ?_⟩) hS ?_
        rotate_left
        focus (intro wS hSw; (try dsimp only at hSw); go_simp; (try with_reducible rfl); (try (first | (rw [if_pos (by omega)]; (try go_simp); (try with_reducible rfl)) | (rw [if_neg (by omega)]; (try go_simp); (try with_reducible rfl)))))
        try simp only [Act.put, zA, zB, zC]
        refine wpAnyR_takeQ (i := 3) (v := ?_) (some 24) rfl rfl (by kernel_rfl) (by kernel_rfl) (by kernel_rfl) (by kernel_rfl) (fun _ _ _ h => h) (Or.inl ⟨by rfl, ?_⟩) ?_
        rotate_left
        focus (intro wS hSw; (try dsimp only at hSw); go_simp; (try with_reducible rfl); (try (first | (rw [if_pos (by omega)]; (try go_simp); (try with_reducible rfl)) | (rw [if_neg (by omega)]; (try go_simp); (try with_reducible rfl)))))
        try simp only [Act.put, zA, zB, zC]
        refine wpAnyR_take (i := 4) (v := ?_) [6, 7] (some 25) rfl rfl (by kernel_rfl) (by kernel_rfl) (by kernel_rfl) (by kernel_rfl) (by kernel_rfl) (by kernel_rfl) (by kernel_rfl) (fun _ _ _ h => h) (Or.inl ⟨by rfl, ?_⟩) hS ?_
        rotate_left
        focus (intro wS hSw; (try dsimp only at hSw); go_simp; (try with_reducible rfl); (try (first | (rw [if_pos (by omega)]; (try go_simp); (try with_reducible rfl)) | (rw [if_neg (by omega)]; (try go_simp); (try with_reducible rfl)))))
        try simp only [Act.put, zA, zB, zC]
        refine wpAnyR_takeQ (i := 5) (v := ?_) (some 26) rfl rfl (by kernel_rfl) (by kernel_rfl) (by kernel_rfl) (by kernel_rfl) (fun _ _ _ h => h) (Or.inl ⟨by rfl, ?_⟩) ?_
        rotate_left
        focus (intro wS hSw; (try dsimp only at hSw); go_simp; (try with_reducible rfl); (try (first | (rw [if_pos (by omega)]; (try go_simp); (try with_reducible rfl)) | (rw [if_neg (by omega)]; (try go_simp); (try with_reducible rfl)))))
        try simp only [Act.put, zA, zB, zC]
        refine wpAnyR_n1 (i := 2) rfl (by kernel_rfl) ?_
        intro K' hK
        rw [if_pos (by rfl)]
        simp only [List.getElem_toArray, List.getElem_cons_succ, List.getElem_cons_zero]
        go_wp2_with fail
        refine (table_any _ _).mono ?_
        rintro e w8 ⟨rfl, rfl⟩
        go_wp2_with fail
        refine hK.out _ _ (.inr (fun h => h)) ?_
        clear hK
        refine wpAnyR_n1 (i := 6) rfl (by kernel_rfl) ?_
        intro K' hK
        rw [if_pos (by rfl)]
        simp only [List.getElem_toArray, List.getElem_cons_succ, List.getElem_cons_zero]
        go_wp2_with fail
        refine (HF.out _ (Grew.refl wr).drew).mono ?_
        rintro e w9 ⟨v9, rfl, hr9, g9⟩
        have HR9 := Lib.hid hr9
        clear hr9
        go_wp2_with fail
        refine hK.out _ _ (.inr (fun h => (HB.out.drew.grew g9).cell 1)) ?_
        clear hK
        refine wpAnyR_takeQ (i := 7) (v := ?_) (some 2) rfl rfl (by kernel_rfl) (by kernel_rfl) (by kernel_rfl) (by kernel_rfl) (fun _ _ _ h => h) (Or.inl ⟨by rfl, ?_⟩) ?_
        rotate_left
        focus (intro wS hSw; (try dsimp only at hSw); go_simp; (try with_reducible rfl); (try (first | (rw [if_pos (by omega)]; (try go_simp); (try with_reducible rfl)) | (rw [if_neg (by omega)]; (try go_simp); (try with_reducible rfl)))))
        try simp only [Act.put, zA, zB, zC]
        refine wpAnyR_done (by kernel_rfl) ?_ _
        go_wp2_with fail
        go_ret
        exact ⟨v9, rfl, HR9.out.mono HG.out.drew.size, HG.out.drew.trans g9⟩
end Go.Proofs.Ytnlaogneceanoaa
namespace Go.Proofs.Ytnlaogneceanoaa
set_option linter.unusedVariables false
set_option linter.unusedSimpArgs false
set_option linter.unusedSectionVars false
open Go.RowKit
theorem seqN_split (a b k : Nat) : seqN (a, b + k) = seqN (a, b) ++ seqN (a + b, k) := by
  have h1 := seqN_take a (b + k) b
  have h2 := seqN_drop a (b + k) b
  have h3 := List.take_append_drop b (seqN (a, b + k))
  rw [h1, h2, Nat.min_eq_left (by omega), show b + k - b = k by omega] at h3
  exact h3.symm
theorem seqN_nodup (r : Nat × Nat) : (seqN r).Nodup := by
  unfold seqN
  exact List.Pairwise.map _ (fun a b h => by omega) List.nodup_range
theorem extL_seq (I : List (Nat × Nat)) (x : Nat × Nat) (k : Nat) : seqL (extL I x k) = seqL (I ++ [x]) ++ seqN (x.1 + x.2, k) := by
  unfold extL
  rw [seqL_append, seqL_append, seqL_one, seqL_one, seqN_split, List.append_assoc]
theorem memL (l : List (Nat × Nat)) (h : ∀ r ∈ l, r.1 + r.2 ≤ 128) (t : Nat) : memS (ints l) t = true ↔ t ∈ seqL l := by
  rw [← mem_seqS, seqS_ints l h]
theorem ext_ok (e f : List (Int × Int)) (n : Int) (h : (extS e f n).2 = 0) :
    ∃ M : List Nat, seqS (ints (extS e f n).1) = seqS e ++ M ∧ ((M.length : Nat) : Int) = n ∧ 1 ≤ n ∧ n ≤ 128 ∧ M.Nodup ∧ (∀ t ∈ M, memS f t = true ∧ memS e t = false) ∧ 1 ≤ sizeS e ∧ ((extS e f n).1.length ≤ (joinS e).length ∨ (extS e f n).1.length ≤ 16) ∧ (extS e f n).1.length ≤ 1000 + e.length := by
  rcases extS_cases e f n with h0 | ⟨I, x, k, hL, hn1, hk, hall, hend, h0⟩
  · rw [h0] at h; exact absurd h (by decide)
  · have hJ : seqL (I ++ [x]) = seqS e := by rw [← hL, ← seqS_joinS e, seqS_ints _ (joinS_bd e)]
    have hIb : ∀ r ∈ I ++ [x], r.1 + r.2 ≤ 128 := by rw [← hL]; exact joinS_bd e
    have hEb := ext_bd I x _ k hIb hall
    have hme : ∀ t, memS (ints (I ++ [x])) t = memS e t := fun t => by
      rw [Bool.eq_iff_iff, memL _ hIb, hJ, mem_seqS]
    have hF : ∀ t, memS (ints (extF (I ++ [x]) f)) t = true → memS f t = true ∧ memS e t = false := fun t ht => by
      have hlt := memS_lt _ _ ht
      unfold extF at ht
      rw [memS_normS _ t hlt, hme, Bool.and_eq_true, Bool.not_eq_true'] at ht
      exact ht
    have hN : ∀ t ∈ seqN (x.1 + x.2, k), memS f t = true ∧ memS e t = false := fun t ht => by
      obtain ⟨h1, h2⟩ := (mem_seqN _ t).1 ht
      simp only at h1 h2
      have := hall (t - (x.1 + x.2)) (by omega)
      rw [show x.1 + x.2 + (t - (x.1 + x.2)) = t by omega] at this
      exact hF t this
    have hx2 : 1 ≤ sizeS e := by
      have hpos : 0 < (seqS e).length := by
        rw [joinS_seq] at hL
        cases hs : seqS e with
        | nil => rw [hs] at hL; simp [joinT] at hL
        | cons a b => simp
      rw [seqS_len] at hpos; exact hpos
    have hJl := joinS_len e
    have hl : (joinS e).length = I.length + 1 := by rw [hL, List.length_append, List.length_singleton]
    have hcount : ∀ M : List Nat, M.Nodup → (∀ t ∈ M, memS f t = true ∧ memS e t = false) → M.length ≤ 128 := fun M h1 h2 => by
      have h3 := (count_nodup M 128 (fun t ht => memS_lt _ _ (h2 t ht).1)).2 h1
      have := List.length_filter_le (fun i => decide (i ∈ M)) (List.range 128)
      rw [List.length_range, h3] at this
      exact this
    rw [h0] at h ⊢
    unfold extG at h ⊢
    split
    · rename_i hc
      have hkn : k = n.toNat := by omega
      have hnd := seqN_nodup (x.1 + x.2, k)
      have hM := hcount _ hnd hN
      rw [seqN_len] at hM
      refine ⟨seqN (x.1 + x.2, k), ?_, by rw [seqN_len]; show ((k : Nat) : Int) = n; omega, hn1, by simp only at hM; omega, hnd, hN, hx2, ?_, ?_⟩
      · show seqS (ints (extL I x k)) = _
        rw [seqS_ints _ hEb, extL_seq, hJ]
      · left; unfold extL; rw [List.length_append, List.length_singleton, hl]; exact Nat.le_refl _
      · unfold extL; rw [List.length_append, List.length_singleton]; omega
    · rename_i hc
      rw [if_neg hc] at h
      split
      · rename_i hd; rw [if_pos hd] at h; exact absurd h (by decide)
      · rename_i hd
        rw [if_neg hd] at h
        split
        · rename_i hz; rw [if_pos hz] at h; exact absurd h hz
        · rename_i hz
          obtain ⟨y, hy, hlm, hsz, hnd, hin, hyb⟩ : ∃ y, extA I x f n.toNat k = (y, 0) ∧ ((y.length : Nat) : Int) ≤ 16 - ((I.length : Int) + 1) ∧ ((sizeS (ints y) : Nat) : Int) = ((n.toNat - k : Nat) : Int) ∧ (seqS (ints y)).Nodup ∧ (∀ i, memS (ints y) i = true → memS (ints (extF (extL I x k) (ints (extF (I ++ [x]) f)))) i = true) ∧ ∀ r ∈ y, r.1 + r.2 ≤ 128 := by
            rcases alloc_ok (ints (extF (extL I x k) (ints (extF (I ++ [x]) f)))) ((n.toNat - k : Nat) : Int) (16 - ((I.length : Int) + 1)) (by omega) (by omega) with hy | ⟨hy, _⟩
            · exact hy
            · exfalso; apply hz; intro h9; unfold extA at h9; rw [hy] at h9; exact absurd h9 (by decide)
          have hYf : ∀ t, t ∈ seqL y → memS (ints (extF (I ++ [x]) f)) t = true ∧ memS (ints (extL I x k)) t = false := fun t ht => by
            have h1 := hin t ((memL y hyb t).2 ht)
            have hlt := memS_lt _ _ h1
            unfold extF at h1
            rw [memS_normS _ t hlt, Bool.and_eq_true, Bool.not_eq_true'] at h1
            exact h1
          rw [hy]
          have hM2 : ∀ t ∈ seqN (x.1 + x.2, k) ++ seqL y, memS f t = true ∧ memS e t = false := fun t ht => by
            rcases List.mem_append.1 ht with ht | ht
            · exact hN t ht
            · exact hF t (hYf t ht).1
          have hnd2 : (seqN (x.1 + x.2, k) ++ seqL y).Nodup := by
            rw [List.nodup_append]
            refine ⟨seqN_nodup _, by rw [← seqS_ints y hyb]; exact hnd, fun a ha b hb hab => ?_⟩
            subst hab
            have h2 := (hYf a hb).2
            have h3 : memS (ints (extL I x k)) a = true := by
              rw [memL _ hEb, extL_seq]; exact List.mem_append_right _ ha
            rw [h2] at h3; cases h3
          have hlen : (seqN (x.1 + x.2, k) ++ seqL y).length = n.toNat := by
            rw [List.length_append, seqN_len, ← seqS_ints y hyb, seqS_len]
            show k + _ = _
            omega
          have hMc := hcount _ hnd2 hM2
          refine ⟨seqN (x.1 + x.2, k) ++ seqL y, ?_, by rw [hlen]; omega, hn1, by omega, hnd2, hM2, hx2, ?_, ?_⟩
          · show seqS (ints (joinS (ints (extL I x k ++ y)))) = _
            rw [seqS_joinS, ints_append, seqS_append, seqS_ints _ hEb, seqS_ints y hyb, extL_seq, hJ, List.append_assoc]
          · right
            refine Nat.le_trans (joinS_len _) ?_
            rw [ints_len, List.length_append]
            unfold extL
            rw [List.length_append, List.length_singleton]
            show _ + y.length ≤ _
            omega
          · refine Nat.le_trans (joinS_len _) ?_
            rw [ints_len, List.length_append]
            unfold extL
            rw [List.length_append, List.length_singleton]
            show _ + y.length ≤ _
            omega
end Go.Proofs.Ytnlaogneceanoaa
namespace Go.Proofs.Ytnlaogneceanoaa
set_option linter.unusedVariables false
set_option linter.unusedSimpArgs false
set_option linter.unusedSectionVars false
open Go.RowKit
theorem stepT_pos (acc : List (Nat × Nat)) (t : Nat) (h : ∀ r ∈ acc, 1 ≤ r.2) : ∀ r ∈ stepT acc t, 1 ≤ r.2 := by
  rcases last_cases acc with rfl | ⟨i, x, rfl⟩
  · rw [stepT_nil]; intro r hr; rw [List.mem_singleton.1 hr]; exact Nat.le_refl _
  · rw [stepT_snoc]
    split
    · intro r hr
      rcases List.mem_append.1 hr with hr | hr
      · exact h r (List.mem_append_left _ hr)
      · rw [List.mem_singleton.1 hr]; exact Nat.le_add_left _ _
    · intro r hr
      rcases List.mem_append.1 hr with hr | hr
      · exact h r hr
      · rw [List.mem_singleton.1 hr]; exact Nat.le_refl _
theorem joinT_pos (s : List Nat) : ∀ r ∈ joinT s, 1 ≤ r.2 := by
  have key : ∀ (s : List Nat) (acc : List (Nat × Nat)), (∀ r ∈ acc, 1 ≤ r.2) → ∀ r ∈ s.foldl stepT acc, 1 ≤ r.2 := by
    intro s
    induction s with
    | nil => intro acc h; exact h
    | cons t s ih => intro acc h; exact ih _ (stepT_pos acc t h)
  exact key s [] (fun r hr => by cases hr)
theorem joinT_idem (s : List Nat) : joinT (seqL (joinT s)) = joinT s := by rw [seqL_joinT]
/-- Runs none of which begins where one before it ends are joined. -/
theorem joinT_gaps (Z : List (Nat × Nat)) (hp : ∀ r ∈ Z, 1 ≤ r.2) (hg : Z.Pairwise fun a b => a.1 + a.2 ≠ b.1) : joinT (seqL Z) = Z := by
  have key : ∀ (Z I : List (Nat × Nat)), (∀ r ∈ Z, 1 ≤ r.2) → (I ++ Z).Pairwise (fun a b => a.1 + a.2 ≠ b.1) → (seqL Z).foldl stepT I = I ++ Z := by
    intro Z
    induction Z with
    | nil => intro I _ _; simp [seqL]
    | cons x Z ih =>
      intro I hp hg
      have h1 := hp x (List.mem_cons_self ..)
      have e : stepJ I (x.1, x.2) = I ++ [x] := by
        rcases last_cases I with rfl | ⟨i, y, rfl⟩
        · unfold stepJ
          rw [if_neg (by simp only []; omega), if_neg (fun h => h.1 rfl)]
        · rw [stepJ_snoc i y (x.1, x.2) (by simp only []; omega), if_neg (by
            have := (List.pairwise_append.1 hg).2.2 y (by simp) x (by simp)
            exact this)]
      rw [seqL_cons, List.foldl_append, ← stepJ_seq I x.1 x.2, e, ih (I ++ [x]) (fun r hr => hp r (List.mem_cons_of_mem _ hr)) (by rw [List.append_assoc]; exact hg), List.append_assoc]
      rfl
  have := key Z [] hp (by simpa using hg)
  simpa [joinT] using this
theorem takeR_zero (l : List (Nat × Nat)) : takeR l 0 = [] := by cases l <;> simp [takeR]
theorem takeR_fst : ∀ (l : List (Nat × Nat)) (n : Nat), ∀ b ∈ takeR l n, ∃ c ∈ l, b.1 = c.1
  | [], n, b, hb => by simp [takeR] at hb
  | r :: l, n, b, hb => by
    unfold takeR at hb
    split at hb
    · cases hb
    · rcases List.mem_cons.1 hb with rfl | hb
      · exact ⟨r, List.mem_cons_self .., rfl⟩
      · obtain ⟨c, hc, e⟩ := takeR_fst l _ b hb
        exact ⟨c, List.mem_cons_of_mem _ hc, e⟩
theorem takeR_gaps : ∀ (l : List (Nat × Nat)) (n : Nat), l.Pairwise (fun a b => a.1 + a.2 ≠ b.1) → (takeR l n).Pairwise (fun a b => a.1 + a.2 ≠ b.1)
  | [], n, _ => by simp [takeR]
  | r :: l, n, h => by
    obtain ⟨h1, h2⟩ := List.pairwise_cons.1 h
    unfold takeR
    split
    · exact List.Pairwise.nil
    · refine List.pairwise_cons.2 ⟨fun b hb => ?_, takeR_gaps l _ h2⟩
      obtain ⟨c, hc, e⟩ := takeR_fst l _ b hb
      by_cases h0 : n - min r.2 n = 0
      · rw [h0, takeR_zero] at hb; cases hb
      · have := h1 c hc
        rw [e]
        simp only []
        omega
theorem sort_gaps (S : Nat → Bool) : (sortS (normS S)).Pairwise (fun a b => a.1 + a.2 ≠ b.1) := by
  have h0 : (normS S).Pairwise (fun a b => a.1 + a.2 ≠ b.1 ∧ b.1 + b.2 ≠ a.1) := (normTo_asc S 128).1.imp (fun {a b} h => ⟨by omega, by omega⟩)
  have hp := sortS_perm _ (normS_cnt S) (normS_asc S)
  have h1 := (hp.pairwise_iff (fun {a b} h => ⟨h.2, h.1⟩)).1 h0
  exact h1.imp (fun h => h.1)
theorem alloc_join (S : Nat → Bool) (n most : Int) (h : (allocS S n most).2 = 0) : joinT (seqL (allocS S n most).1) = (allocS S n most).1 := by
  unfold allocS at h ⊢
  by_cases h1 : n < 1 ∨ most < 1
  · rw [if_pos h1] at h; exact absurd h (by decide)
  rw [if_neg h1] at h ⊢
  by_cases h2 : (bestF n (normS S)).2 ≠ 0
  · rw [if_pos h2]
    exact joinT_gaps _ (fun r hr => by rw [List.mem_singleton.1 hr]; simp only []; omega) (List.pairwise_singleton ..)
  rw [if_neg h2] at h ⊢
  by_cases h3 : n.toNat - cntL (sortS (normS S)) ≠ 0 ∨ most < ((takeR (sortS (normS S)) n.toNat).length : Int)
  · rw [if_pos h3] at h; exact absurd h (by decide)
  rw [if_neg h3]
  exact joinT_gaps _ (takeR_pos _ _ (fun r hr => (normS_cnt S r ((mem_sortS _ (normS_cnt S) r).1 hr)).1)) (takeR_gaps _ _ (sort_gaps S))
theorem fold_up (I : List (Nat × Nat)) (x : Nat × Nat) : ∀ k, (seqN (x.1 + x.2, k)).foldl stepT (I ++ [x]) = I ++ [(x.1, x.2 + k)] := by
  intro k
  induction k with
  | zero => simp [seqN]
  | succ k ih =>
    rw [seqN_succ, List.foldl_append, ih, List.foldl_cons, List.foldl_nil, stepT_snoc, if_pos (by simp only []; omega)]
    rfl
theorem ext_join (e f : List (Int × Int)) (n : Int) (h : (extS e f n).2 = 0) : joinT (seqL (extS e f n).1) = (extS e f n).1 := by
  rcases extS_cases e f n with h0 | ⟨I, x, k, hL, hn1, hk, hall, hend, h0⟩
  · rw [h0] at h; exact absurd h (by decide)
  rw [h0] at h ⊢
  unfold extG at h ⊢
  by_cases h1 : n.toNat - k = 0
  · rw [if_pos h1]
    show joinT (seqL (extL I x k)) = extL I x k
    rw [extL_seq]
    unfold joinT
    rw [List.foldl_append, show (seqL (I ++ [x])).foldl stepT [] = I ++ [x] from by rw [← hL, joinS_seq]; exact joinT_idem _]
    exact fold_up I x k
  rw [if_neg h1] at h ⊢
  by_cases h2 : 16 - ((I.length : Int) + 1) < 1
  · rw [if_pos h2] at h; exact absurd h (by decide)
  rw [if_neg h2] at h ⊢
  by_cases h3 : (extA I x f n.toNat k).2 ≠ 0
  · rw [if_pos h3] at h; exact absurd h h3
  rw [if_neg h3]
  show joinT (seqL (joinS _)) = joinS _
  rw [joinS_seq, joinT_idem]
theorem in_seq (l : List (Int × Int)) (t : Int) (ht : okT t = true) (h : l.any (badR t) = false) : ∀ i ∈ seqS l, ttS t ≤ (i : Int) ∧ (i : Int) < t := by
  intro i hi
  have hlt := seqS_lt l i hi
  have hm := (mem_seqS l i).1 hi
  unfold memS at hm
  obtain ⟨r, hr, hin⟩ := List.any_eq_true.1 hm
  have hb := List.any_eq_false.1 h r hr
  have hs := clipS_in r.1 r.2 i hlt
  rw [show (r.1, r.2) = r from rfl, hin] at hs
  have hs' := of_decide_eq_true hs.symm
  unfold badR at hb
  simp only [Bool.or_eq_true, decide_eq_true_eq, not_or] at hb
  unfold ttS at hb ⊢
  rw [if_pos ht] at hb ⊢
  unfold okT at ht
  have ht' := of_decide_eq_true ht
  omega
theorem seq_in (Z : List (Nat × Nat)) (t : Int) (hp : ∀ r ∈ Z, 1 ≤ r.2) (h : ∀ i ∈ seqL Z, ttS t ≤ (i : Int) ∧ (i : Int) < t) : (ints Z).any (badR t) = false := by
  rw [List.any_eq_false]
  intro r hr
  unfold ints at hr
  obtain ⟨z, hz, rfl⟩ := List.mem_map.1 hr
  have hz1 := hp z hz
  have h1 := h z.1 (List.mem_flatMap.2 ⟨z, hz, (mem_seqN z _).2 ⟨Nat.le_refl _, by omega⟩⟩)
  have h2 := h (z.1 + z.2 - 1) (List.mem_flatMap.2 ⟨z, hz, (mem_seqN z _).2 ⟨by omega, by omega⟩⟩)
  unfold badR
  simp only [Bool.or_eq_true, decide_eq_true_eq, not_or]
  omega
/-- A label is valid if its runs are joined, lie within the volume and are not too many. -/
theorem valid_mk (t : Int) (x : Lab) (Z : List (Nat × Nat)) (ht : okT t = true) (hid : idB x = true) (htx : txB x = true) (hZ : x.ext = ints Z) (hj : joinT (seqL Z) = Z) (hb : ∀ r ∈ Z, r.1 + r.2 ≤ 128) (h1 : 1 ≤ Z.length) (h16 : Z.length ≤ 16) (hnd : (seqL Z).Nodup) (hin : ∀ i ∈ seqL Z, ttS t ≤ (i : Int) ∧ (i : Int) < t) : validL x t = true := by
  have hpos : ∀ r ∈ Z, 1 ≤ r.2 := fun r hr => joinT_pos (seqL Z) r (by rw [hj]; exact hr)
  have hc : cnB x = true := by unfold cnB; rw [hZ, ints_len]; exact decide_eq_true ⟨h1, h16⟩
  have hjn : jnB x = true := by
    unfold jnB
    rw [hZ, joinS_seq, seqS_ints Z hb, hj, Bool.and_eq_true]
    exact ⟨decide_eq_true rfl, decide_eq_true hnd⟩
  have hi : inB x t = true := by unfold inB; rw [hZ, seq_in Z t hpos hin]; rfl
  unfold validL
  rw [ht, hid, htx, hc, hjn, hi]
  rfl
/-- What is known of a valid label's runs. -/
theorem valid_runs (l : Lab) (t : Int) (h : validL l t = true) : ints (joinS l.ext) = l.ext ∧ (seqS l.ext).Nodup ∧ (∀ i ∈ seqS l.ext, ttS t ≤ (i : Int) ∧ (i : Int) < t) ∧ 1 ≤ l.ext.length ∧ l.ext.length ≤ 16 ∧ (joinS l.ext).length = l.ext.length := by
  obtain ⟨h1, h2, h3, h4, h5, h6⟩ := validL_parts l t h
  unfold jnB at h5
  rw [Bool.and_eq_true] at h5
  have e := of_decide_eq_true h5.1
  unfold inB at h6
  unfold cnB at h4
  have h4' := of_decide_eq_true h4
  have h7 : (joinS l.ext).length = l.ext.length := by rw [← ints_len (joinS l.ext), e]
  exact ⟨e, of_decide_eq_true h5.2, in_seq _ t h1 (by simpa using h6), h4'.1, h4'.2, h7⟩
end Go.Proofs.Ytnlaogneceanoaa
namespace Go.Proofs.Ytnlaogneceanoaa
set_option linter.unusedVariables false
set_option linter.unusedSimpArgs false
set_option linter.unusedSectionVars false
open Go.RowKit
/-- Runs in a slice that is newer than w. -/
def NewRuns (w w' : World) (A : Option Addr) (c : Nat) (k : List (Int × Int)) : Prop := RunsAt w' w'.heap.size A k ∧ k.length ≤ c ∧ c ≤ 9223372036854775807 ∧ ∀ b off, A = some ⟨b, off, none⟩ → w.heap.size ≤ b
theorem NewRuns.nil (w w' : World) : NewRuns w w' none 0 [] := ⟨nil_runs w', Nat.le_refl _, by omega, fun b off e => by cases e⟩
theorem NewRuns.of_own {w w' : World} {v : Value} {l : List (Nat × Nat)} {k : List (Int × Int)} (h : OwnL w' w.heap.size 58 2 v (l.map rowN)) (hb : ∀ r ∈ l, r.1 + r.2 ≤ 128) (hk : ints l = k) : ∃ A c, v = .slice A k.length c ∧ NewRuns w w' A c k := by
  obtain ⟨A, c, hv, hr, h1, h2, h3⟩ := own_runs2 h (fun r hr => Nat.le_trans (hb r hr) (by omega))
  subst hk
  exact ⟨A, c, by rw [ints_len]; exact hv, hr, by rw [ints_len]; exact h1, h2, fun b off e => (h3 b off e).1⟩
section
variable {A : Option Addr} {c m : Nat} {l : List (Int × Int)} {w : World}
theorem extend_new {A2 : Option Addr} {c2 m2 : Nat} {l2 : List (Int × Int)} (hn1 : m = l.length) (hn2 : m2 = l2.length) (hl1 : l.length ≤ 1000) (hl2 : l2.length ≤ 1000000) (hr1 : RunsAt w w.heap.size A l) (hr2 : RunsAt w w.heap.size A2 l2) (n : Int) (n0 : -9223372036854775808 ≤ n) (n1 : n ≤ 9223372036854775807) (k : List (Int × Int)) (er : Int) (hk : ints (extS l l2 n).1 = k) (he : (extS l l2 n).2 = er) :
    Calls Try.prog 86 #[.slice A m c, .slice A2 m2 c2, .int .i64 n] w fun e w' => ∃ A c, e = .returned (.tuple #[.slice A k.length c, .int .i64 er]) ∧ NewRuns w w' A c k ∧ Grew w w' := by
  subst hn1; subst hn2; subst he
  refine (extend_any A A2 c c2 l l2 w w.heap.size (Nat.le_refl _) hl1 hl2 hr1 hr2 n n0 n1).mono ?_
  rintro e w1 ⟨v, rfl, hown, g1⟩
  obtain ⟨A', c', hv, hr'⟩ := NewRuns.of_own hown (extS_bd _ _ _) hk
  exact ⟨A', c', by rw [hv], hr', g1⟩
theorem alloc_new (hn : m = l.length) (hl : l.length ≤ 1000000) (hr : RunsAt w w.heap.size A l) (n : Int) (n0 : -9223372036854775808 ≤ n) (n1 : n ≤ 9223372036854775807) (most : Int) (k : List (Int × Int)) (er : Int) (hk : ints (allocS (memS l) n most).1 = k) (he : (allocS (memS l) n most).2 = er) :
    Calls Try.prog 66 #[.slice A m c, .int .i64 n, .int .i64 most] w fun e w' => ∃ A c, e = .returned (.tuple #[.slice A k.length c, .int .i64 er]) ∧ NewRuns w w' A c k ∧ Grew w w' := by
  subst hn; subst he
  refine (alloc_any A c l w w.heap.size (Nat.le_refl _) hl hr n n0 n1 most).mono ?_
  rintro e w1 ⟨v, rfl, hown, g1⟩
  obtain ⟨A', c', hv, hr'⟩ := NewRuns.of_own hown (alloc_bd _ _ _) hk
  exact ⟨A', c', by rw [hv], hr', g1⟩
theorem NewRuns.hold {w w1 w2 : World} {k : List (Int × Int)} (h : NewRuns w w1 A c k) (hg : Grew w1 w2) : NewRuns w w2 A c k := ⟨h.1.hold hg, h.2⟩
set_option maxRecDepth 100000 in
set_option maxHeartbeats 4000000 in
theorem release_new (hn : m = l.length) (hl : l.length ≤ 1000) (hr : RunsAt w w.heap.size A l) (keep : Int) (n0 : -9223372036854775808 ≤ keep) (n1 : keep ≤ 9223372036854775807) (ka : List (Int × Int)) (er : Int) (ha : relA l keep = ka) (he : relE l keep = er) :
    Calls Try.prog 88 #[.slice A m c, .int .i64 keep] w fun e w' => ∃ A1 c1 A2 n2 c2, e = .returned (.tuple #[.slice A1 ka.length c1, .slice A2 n2 c2, .int .i64 er]) ∧ NewRuns w w' A1 c1 ka ∧ Grew w w' := by
  subst hn
  have hG := Grew.refl w
  have hsl := sizeS_le l
  by_cases h1 : keep < 1
  · have e1 : ka = [] := by rw [← ha]; unfold relA; rw [if_pos (.inl h1)]
    have e3 : er = 2 := by rw [← he]; unfold relE; rw [if_pos (.inl h1)]
    clear ha he
    subst e1; subst e3
    go_enter Try.func88, Try.ntmps88
    go_wp2_with fail
    go_returns
    exact ⟨none, 0, none, 0, 0, rfl, NewRuns.nil _ _, hG⟩
  by_cases h2 : (sizeS l : Int) < keep
  · have e1 : ka = [] := by rw [← ha]; unfold relA; rw [if_pos (.inr h2)]
    have e3 : er = 2 := by rw [← he]; unfold relE; rw [if_pos (.inr h2)]
    clear ha he
    subst e1; subst e3
    go_enter Try.func88, Try.ntmps88
    go_wp2_with fail
    refine (size_val rfl (by omega) hr (sizeS l) rfl).mono ?_
    rintro e ws ⟨rfl, gs⟩
    replace hr := hr.hold gs
    replace hG := hG.trans gs
    clear gs
    go_wp2_with fail
    go_returns
    exact ⟨none, 0, none, 0, 0, rfl, NewRuns.nil _ _, hG⟩
  have h3 : ¬ (keep < 1 ∨ (sizeS l : Int) < keep) := fun h => h.elim h1 h2
  have e3 : er = 0 := by rw [← he]; unfold relE; rw [if_neg h3]
  have hk1 : ints (joinS (ints (cutA l keep.toNat))) = ka := by rw [← ha]; unfold relA; rw [if_neg h3]
  have hl1 : ka.length ≤ l.length := by have := joinS_len (ints (cutA l keep.toNat)); rw [← hk1, ints_len]; rw [ints_len, cutA_len] at this; exact this
  obtain ⟨k2, hk2⟩ : ∃ k, ints (joinS (ints (cutB l keep.toNat))) = k := ⟨_, rfl⟩
  have hl2 : k2.length ≤ l.length := by have := joinS_len (ints (cutB l keep.toNat)); rw [← hk2, ints_len]; rw [ints_len, cutB_len] at this; exact this
  have HK1 := Lib.hid hk1
  have HK2 := Lib.hid hk2
  clear ha he hk1 hk2 h3
  subst e3
  go_enter Try.func88, Try.ntmps88
  go_wp2_with fail
  refine (size_val rfl (by omega) hr (sizeS l) rfl).mono ?_
  rintro e ws ⟨rfl, gs⟩
  replace hr := hr.hold gs
  replace hG := hG.trans gs
  clear gs
  have HS0 := Lib.hid hG.size
  go_wp2_with fail
  refine (cut_any A c l ws ws.heap.size (Nat.le_refl _) (by omega) hr keep keep.toNat n0 n1 rfl).mono ?_
  rintro e w3 ⟨v1, v2, rfl, ho1, ho2, g3⟩
  obtain ⟨A1, c1, hv1, hnr1⟩ := NewRuns.of_own ho1 (joinS_bd _) HK1.out
  obtain ⟨A2, c2, hv2, hnr2⟩ := NewRuns.of_own ho2 (joinS_bd _) HK2.out
  subst hv1; subst hv2
  have r1 := hnr1.1
  have r2 := hnr2.1
  have HN1 := Lib.hid (show NewRuns w w3 A1 c1 ka from ⟨hnr1.1, hnr1.2.1, hnr1.2.2.1, fun b off e => Nat.le_trans HS0.out (hnr1.2.2.2 b off e)⟩)
  replace hG := hG.trans g3
  clear ho1 ho2 hnr1 hnr2 g3 hr
  go_wp2_with fail
  refine (minus_val rfl rfl (by omega) (by omega) r2 r1 _ rfl).mono ?_
  rintro e w4 ⟨A3, c3, rfl, r3, g4⟩
  go_wp2_with fail
  go_returns
  exact ⟨_, _, _, _, _, rfl, HN1.out.hold g4, hG.trans g4⟩
end
end Go.Proofs.Ytnlaogneceanoaa
namespace Go.Proofs.Ytnlaogneceanoaa
set_option linter.unusedVariables false
set_option linter.unusedSimpArgs false
set_option linter.unusedSectionVars false
open Go.RowKit
attribute [local go_sem ↓] Go.wp_at_zero Go.wp_at_succ
def chExt (T : Tab) (n : Int) (k : Nat) (l : Lab) : List Lab × Int := (T.labels.set k { l with ext := ints (extS l.ext (freeT T) n).1 }, (extS l.ext (freeT T) n).2)
def chRel (T : Tab) (keep : Int) (k : Nat) (l : Lab) : List Lab × Int := (T.labels.set k { l with ext := relA l.ext keep }, relE l.ext keep)
def chRep (T : Tab) (ex : List (Int × Int)) (k : Nat) (l : Lab) : List Lab × Int := (T.labels.set k { l with ext := ex }, if sizeS ex = sizeS l.ext ∧ validT { T with labels := T.labels.set k { l with ext := ex } } = true then 0 else 1)
def chCon (T : Tab) (id : Int) (note : ByteArray) (k : Nat) (l : Lab) : List Lab × Int :=
  if l.unit = 0 then (T.labels, 9) else if 400 < note.size then (T.labels, 1)
  else ((if 0 ≤ idxT T id 0 then T.labels.set (idxT T id 0).toNat labZ else T.labels).set k { l with unit := 0, note := note }, 0)
def chNote (T : Tab) (note : ByteArray) (k : Nat) (l : Lab) : List Lab × Int := if 400 < note.size then (T.labels, 1) else (T.labels.set k { l with note := note }, 0)
def chRem (T : Tab) (k : Nat) (_l : Lab) : List Lab × Int := (T.labels.set k labZ, 0)
def chgT (T : Tab) (id unit : Int) (F : Nat → Lab → List Lab × Int) : Tab × Int :=
  if validT T = true then
    if 0 ≤ idxT T id unit then
      (if (F (idxT T id unit).toNat (T.labels.getD (idxT T id unit).toNat labZ)).2 = 0 then ({ T with labels := (F (idxT T id unit).toNat (T.labels.getD (idxT T id unit).toNat labZ)).1 }, 0) else (tabZ, (F (idxT T id unit).toNat (T.labels.getD (idxT T id unit).toNat labZ)).2))
    else (tabZ, 6)
  else (tabZ, 1)
/-- Where a changed table lies while it is changed: its labels in block g, the variable itself in block xo. -/
structure OutAt (w w1 : World) (base g cap xo : Nat) (ys : List LabE) (T : Tab) : Prop where
  grew : Grew w w1
  hg : w.heap.size ≤ g
  hx : w.heap.size ≤ xo
  ne : xo ≠ g
  tab : TabO w1 base (.slice (some ⟨g, 0, none⟩) T.labels.length cap) ys T.labels
  blk : Blk w1 xo 34 #[.string T.name, .int .i64 T.tracks, .slice (some ⟨g, 0, none⟩) T.labels.length cap]
/-- A closure's contract: it makes labels and an error of a label. -/
def ChgR (w1 : World) (base g cap n : Nat) (r : List Lab × Int) (e : Ending) (w2 : World) : Prop :=
  e = .returned (.int .i64 r.2) ∧ (∃ ys, TabO w2 base (.slice (some ⟨g, 0, none⟩) n cap) ys r.1) ∧ Turned (fun x => x = g) w1 w2
theorem TabO.row {w : World} {base g n cap : Nat} {ys : List LabE} {ls : List Lab} (h : TabO w base (.slice (some ⟨g, 0, none⟩) n cap) ys ls) {k : Nat} (hk : k < ls.length) :
    ∃ B d, (ys.map labC)[k]? = some (labC ⟨B, d, ls[k]⟩) ∧ LabAt w B d ls[k] ∧ (0 < ls[k].ext.length → ∀ b off, B = some ⟨b, off, none⟩ → b ≠ g) ∧ ys[k]? = some ⟨B, d, ls[k]⟩ := by
  have hy : k < ys.length := by rw [h.len]; exact hk
  have h1 : (ys.map (·.l))[k]? = some ys[k].l := by rw [List.getElem?_map, List.getElem?_eq_getElem hy]; rfl
  rw [h.eq, List.getElem?_eq_getElem hk] at h1
  have h2 := Option.some.inj h1
  have h3 : ys[k] = ⟨ys[k].A, ys[k].c, ls[k]⟩ := by rw [h2]
  refine ⟨ys[k].A, ys[k].c, by rw [List.getElem?_map, List.getElem?_eq_getElem hy, ← h3]; rfl, by rw [h2]; exact h.lab _ (List.getElem_mem hy), fun h0 b off e => ?_, by rw [List.getElem?_eq_getElem hy, ← h3]⟩
  have := h.far ys[k] (List.getElem_mem hy) (by rw [← h2]; exact h0) b off e
  intro e2
  exact this (by rw [e2]; rfl)
theorem OwnL.cell0 {w : World} {base e sz g n cap : Nat} {rows : List (List Value)} (h : OwnL w base e sz (.slice (some ⟨g, 0, none⟩) n cap) rows) {j : Nat} {r : List Value} {u : Value} (hj : rows[j]? = some r) (hi : r[0]? = some u) : w.cell? ⟨g, j * sz, none⟩ = some u := h.cell hj hi
theorem OwnL.block_lt {w : World} {base e sz g n cap : Nat} {rows : List (List Value)} (h : OwnL w base e sz (.slice (some ⟨g, 0, none⟩) n cap) rows) : base ≤ g ∧ g < w.heap.size := h.own_ge rfl
theorem set_turned (w : World) (g o : Nat) (u : Value) : Turned (fun x => x = g) w (w.setCell ⟨g, o, none⟩ u) := (Turned.refl (fun x => x = g) w).setCell (p := ⟨g, o, none⟩) (fun _ => rfl) u
/-- One cell of one label is another one now. -/
theorem TabO.field {w : World} {base g n cap : Nat} {ys : List LabE} {ls : List Lab} (h : TabO w base (.slice (some ⟨g, 0, none⟩) n cap) ys ls) {k : Nat} (hk : k < ls.length) {B : Option Addr} {d : Nat} (hrow : (ys.map labC)[k]? = some (labC ⟨B, d, ls[k]⟩)) (i : Nat) (hi : i < 5) (u : Value) (y : LabE) (hy : labC y = (labC ⟨B, d, ls[k]⟩).set i u)
    (hl : LabAt w y.A y.c y.l) (hf : 0 < y.l.ext.length → ∀ b off, y.A = some ⟨b, off, none⟩ → b ≠ g) : TabO (w.setCell ⟨g, k * 5 + i, none⟩ u) base (.slice (some ⟨g, 0, none⟩) n cap) (ys.set k y) (ls.set k y.l) :=
  h.set_ k y hk (by rw [hy]; exact h.own.set_ hrow hi rfl u) (set_turned w g _ u) (hl.turned (set_turned w g _ u) (fun h0 b off e => hf h0 b off e)) hf
theorem TabO.after {w : World} {base g n cap : Nat} {ys : List LabE} {ls : List Lab} {k : Nat} {y : LabE} (hk : k < ys.length) : ((ys.set k y).map labC)[k]? = some (labC y) := by
  rw [List.getElem?_map, List.getElem?_set_self hk]; rfl
/-- A whole label of the own slice is stored anew, cell by cell. -/
theorem OwnL.set5 {w : World} {base e g n cap : Nat} {rows : List (List Value)} (h : OwnL w base e 5 (.slice (some ⟨g, 0, none⟩) n cap) rows) {j : Nat} {r : List Value} (hj : rows[j]? = some r) (a b c d f : Value) :
    OwnL (((((w.setCell ⟨g, j * 5, none⟩ a).setCell ⟨g, j * 5 + 1, none⟩ b).setCell ⟨g, j * 5 + 2, none⟩ c).setCell ⟨g, j * 5 + 3, none⟩ d).setCell ⟨g, j * 5 + 4, none⟩ f) base e 5 (.slice (some ⟨g, 0, none⟩) n cap) (rows.set j [a, b, c, d, f]) := by
  have hl : r.length = 5 := h.1 r (List.mem_of_getElem? hj)
  have hlt : j < rows.length := (List.getElem?_eq_some_iff.1 hj).1
  have h0 := h.set_ (i := 0) (o := j * 5) hj (by omega) rfl a
  have h1 := h0.set_ (i := 1) (o := j * 5 + 1) (List.getElem?_set_self hlt) (by omega) rfl b
  rw [List.set_set] at h1
  have h2 := h1.set_ (i := 2) (o := j * 5 + 2) (List.getElem?_set_self hlt) (by omega) rfl c
  rw [List.set_set] at h2
  have h3 := h2.set_ (i := 3) (o := j * 5 + 3) (List.getElem?_set_self hlt) (by omega) rfl d
  rw [List.set_set] at h3
  have h4 := h3.set_ (i := 4) (o := j * 5 + 4) (List.getElem?_set_self hlt) (by omega) rfl f
  rw [List.set_set] at h4
  match r, hl with
  | [r0, r1, r2, r3, r4], _ => exact h4
theorem set5_turned (w : World) (g o : Nat) (a b c d f : Value) : Turned (fun x => x = g) w (((((w.setCell ⟨g, o, none⟩ a).setCell ⟨g, o + 1, none⟩ b).setCell ⟨g, o + 2, none⟩ c).setCell ⟨g, o + 3, none⟩ d).setCell ⟨g, o + 4, none⟩ f) :=
  ((((set_turned w g _ a).trans (set_turned _ g _ b)).trans (set_turned _ g _ c)).trans (set_turned _ g _ d)).trans (set_turned _ g _ f)
theorem TabO.set5 {w : World} {base g n cap : Nat} {ys : List LabE} {ls : List Lab} (h : TabO w base (.slice (some ⟨g, 0, none⟩) n cap) ys ls) {k : Nat} (hk : k < ls.length) (y : LabE)
    (hl : LabAt w y.A y.c y.l) (hf : 0 < y.l.ext.length → ∀ b off, y.A = some ⟨b, off, none⟩ → b ≠ g) :
    TabO (((((w.setCell ⟨g, k * 5, none⟩ (.int .i64 y.l.id)).setCell ⟨g, k * 5 + 1, none⟩ (.int .i64 y.l.unit)).setCell ⟨g, k * 5 + 2, none⟩ (.string y.l.name)).setCell ⟨g, k * 5 + 3, none⟩ (.string y.l.note)).setCell ⟨g, k * 5 + 4, none⟩ (.slice y.A y.l.ext.length y.c)) base (.slice (some ⟨g, 0, none⟩) n cap) (ys.set k y) (ls.set k y.l) := by
  obtain ⟨B, d, hrow, _, _, _⟩ := h.row hk
  exact h.set_ k y hk (h.own.set5 hrow _ _ _ _ _) (set5_turned w g _ _ _ _ _ _) (hl.turned (set5_turned w g _ _ _ _ _ _) (fun h0 b off e => hf h0 b off e)) hf
section
variable (w w1 : World) (base g cap xo : Nat) (ys : List LabE) (T : Tab) (k : Nat) (hk : k < T.labels.length) (h : OutAt w w1 base g cap xo ys T)
include h
set_option maxRecDepth 100000 in
set_option maxHeartbeats 4000000 in
theorem note1_any (note : ByteArray) (hns : note.size ≤ 9223372036854775807) (gn : Nat) (hb : Blk w gn 9 #[.string note]) :
    Calls Try.prog 90 #[.pointer (some ⟨g, k * 5, none⟩), .pointer (some ⟨xo, 0, none⟩), .pointer (some ⟨gn, 0, none⟩)] w1 (ChgR w1 base g cap T.labels.length (chNote T note k T.labels[k])) := by
  obtain ⟨B, d, hrow, hla, hfar, _⟩ := h.tab.row hk
  have hb1 := hb.grew h.grew
  have hbl := hb.lt
  have hg1 := h.tab.own.block_lt
  have x0 := hb1.cell 0
  have hbl1 := hb1.lt
  have y3 : w1.cell? ⟨g, k * 5 + 3, none⟩ = some (.string T.labels[k].note) := h.tab.own.cell hrow (i := 3) rfl
  have y0 : w1.cell? ⟨g, k * 5, none⟩ = some (.int .i64 T.labels[k].id) := h.tab.own.cell0 hrow rfl
  have f3 := h.tab.own.frozen (k * 5 + 3)
  by_cases hn : 400 < note.size
  · have HE := Lib.hid (show chNote T note k T.labels[k] = (T.labels, 1) from if_pos hn)
    have hni : (note.size : Int) > 400 := by omega
    have HT := Lib.hid h.tab
    clear h hrow hla hfar hb hb1
    go_enter Try.func90, Try.ntmps90
    go_wp2_with fail
    go_ret
    rw [HE.out]
    exact ⟨rfl, ⟨_, HT.out⟩, by (repeat' first | (with_reducible exact Turned.refl _ _) | (with_reducible assumption) | (with_reducible refine Turned.alloc ?_ _) | (with_reducible refine Turned.drew ?_) | (with_reducible refine Turned.drewN ?_ _) | (with_reducible refine Turned.setRow ?_ (by first | (simp; done) | (simp; omega) | omega) _) | (with_reducible refine Turned.setCell ?_ (by first | (simp; done) | (simp; omega) | omega) _) | ((with_reducible apply Turned.andGrew); rotate_left; (with_reducible assumption)) | ((with_reducible apply Turned.trans); rotate_left; (with_reducible assumption)) | fail)⟩
  · have HE := Lib.hid (show chNote T note k T.labels[k] = (T.labels.set k { T.labels[k] with note := note }, 0) from if_neg hn)
    have hni : ¬ (note.size : Int) > 400 := by omega
    have hl2 : LabAt w1 B d { T.labels[k] with note := note } := ⟨hla.id0, hla.id1, hla.unit0, hla.unit1, hla.name, hns, hla.runs, hla.len, hla.cap⟩
    have HT := Lib.hid (h.tab.field hk hrow 3 (by decide) (.string note) ⟨B, d, { T.labels[k] with note := note }⟩ rfl hl2 hfar)
    have ht := set_turned w1 g (k * 5 + 3) (.string note)
    have HTU := Lib.hid ht
    clear h hrow hla hfar hb hb1 ht hl2
    go_enter Try.func90, Try.ntmps90
    go_wp2_with fail
    go_ret
    rw [HE.out]
    exact ⟨rfl, ⟨_, HT.out⟩, HTU.out⟩
set_option maxRecDepth 100000 in
set_option maxHeartbeats 4000000 in
theorem remove1_any : Calls Try.prog 91 #[.pointer (some ⟨g, k * 5, none⟩), .pointer (some ⟨xo, 0, none⟩)] w1 (ChgR w1 base g cap T.labels.length (chRem T k T.labels[k])) := by
  obtain ⟨B, d, hrow, hla, hfar, _⟩ := h.tab.row hk
  have hg1 := h.tab.own.block_lt
  have y0 : w1.cell? ⟨g, k * 5, none⟩ = some (.int .i64 T.labels[k].id) := h.tab.own.cell0 hrow rfl
  have y1 : w1.cell? ⟨g, k * 5 + 1, none⟩ = some (.int .i64 T.labels[k].unit) := h.tab.own.cell hrow (i := 1) rfl
  have y2 : w1.cell? ⟨g, k * 5 + 2, none⟩ = some (.string T.labels[k].name) := h.tab.own.cell hrow (i := 2) rfl
  have y3 : w1.cell? ⟨g, k * 5 + 3, none⟩ = some (.string T.labels[k].note) := h.tab.own.cell hrow (i := 3) rfl
  have y4 : w1.cell? ⟨g, k * 5 + 4, none⟩ = some (.slice B T.labels[k].ext.length d) := h.tab.own.cell hrow (i := 4) rfl
  have f0 := h.tab.own.frozen (k * 5)
  have f1 := h.tab.own.frozen (k * 5 + 1)
  have f2 := h.tab.own.frozen (k * 5 + 2)
  have f3 := h.tab.own.frozen (k * 5 + 3)
  have f4 := h.tab.own.frozen (k * 5 + 4)
  have HT := Lib.hid (h.tab.set5 hk ⟨none, 0, labZ⟩ (LabAt.zero _) (fun h0 => absurd h0 (by decide)))
  have HTU := Lib.hid (set5_turned w1 g (k * 5))
  clear h hrow hla hfar
  go_enter Try.func91, Try.ntmps91
  go_wp2_with fail
  go_ret
  exact ⟨rfl, ⟨_, HT.out⟩, HTU.out _ _ _ _ _⟩
set_option maxRecDepth 100000 in
set_option maxHeartbeats 4000000 in
theorem extend1_any (A : Option Addr) (c : Nat) (xs : List LabE) (hT : TabAt w A c xs T) (hs : SmallT T) (n : Int) (n0 : -9223372036854775808 ≤ n) (n1 : n ≤ 9223372036854775807) (gt gn : Nat) (ht : Blk w gt 34 #[.string T.name, .int .i64 T.tracks, .slice A T.labels.length c]) (hb : Blk w gn 3 #[.int .i64 n]) :
    Calls Try.prog 85 #[.pointer (some ⟨g, k * 5, none⟩), .pointer (some ⟨xo, 0, none⟩), .pointer (some ⟨gt, 0, none⟩), .pointer (some ⟨gn, 0, none⟩)] w1 (ChgR w1 base g cap T.labels.length (chExt T n k T.labels[k])) := by
  obtain ⟨B, d, hrow, hla, hfar, _⟩ := h.tab.row hk
  have hle := hs.ext T.labels[k] (List.getElem_mem hk)
  have ht1 := ht.grew h.grew
  have hb1 := hb.grew h.grew
  have hg1 := h.tab.own.block_lt
  have y0 : w1.cell? ⟨g, k * 5, none⟩ = some (.int .i64 T.labels[k].id) := h.tab.own.cell0 hrow rfl
  have y4 : w1.cell? ⟨g, k * 5 + 4, none⟩ = some (.slice B T.labels[k].ext.length d) := h.tab.own.cell hrow (i := 4) rfl
  obtain ⟨kf, hkf⟩ : ∃ kf, freeT T = kf := ⟨_, rfl⟩
  have hkl : kf.length ≤ 128 := by rw [← hkf]; exact freeT_len T
  obtain ⟨ke, hke⟩ : ∃ ke, ints (extS T.labels[k].ext kf n).1 = ke := ⟨_, rfl⟩
  obtain ⟨er, her⟩ : ∃ er, (extS T.labels[k].ext kf n).2 = er := ⟨_, rfl⟩
  have HE := Lib.hid (show chExt T n k T.labels[k] = (T.labels.set k { T.labels[k] with ext := ke }, er) from by unfold chExt; rw [hkf, hke, her])
  have HFC := Lib.hid (fun w2 (g2 : Grew w1 w2) => free_tab A c xs T w2 (hT.hold (h.grew.trans g2)) hs _ rfl kf hkf)
  have HX := Lib.hid (fun (w2 : World) (g2 : Grew w1 w2) A5 c5 (hr : RunsAt w2 w2.heap.size A5 kf) => extend_new (A := B) (c := d) (m := T.labels[k].ext.length) (A2 := A5) (c2 := c5) (w := w2) rfl rfl hle (by omega) ((hla.hold g2).runs) hr n n0 n1 ke er hke her)
  have HTAB := Lib.hid h.tab
  have HROW := Lib.hid hrow
  have HLA := Lib.hid hla
  have HT1 := Lib.hid ht1
  have HB1 := Lib.hid hb1
  have hS : (fun w' : World => w'.cell? ⟨g, k * 5, none⟩ = some (.int .i64 T.labels[k].id) ∧ w'.cell? ⟨g, k * 5 + 4, none⟩ = some (.slice B T.labels[k].ext.length d) ∧ w'.cell? ⟨gt, 0, none⟩ = some (.string T.name) ∧ w'.cell? ⟨gt, 1, none⟩ = some (.int .i64 T.tracks) ∧ w'.cell? ⟨gt, 2, none⟩ = some (.slice A T.labels.length c) ∧ w'.cell? ⟨gn, 0, none⟩ = some (.int .i64 n)) w1.drew := ⟨y0, y4, ht1.cell 0, ht1.cell 1, ht1.cell 2, hb1.cell 0⟩
  have hSg : ∀ w2 w3 : World, Grew w2 w3 → g < w2.heap.size → gt < w2.heap.size → gn < w2.heap.size → (fun w' : World => w'.cell? ⟨g, k * 5, none⟩ = some (.int .i64 T.labels[k].id) ∧ w'.cell? ⟨g, k * 5 + 4, none⟩ = some (.slice B T.labels[k].ext.length d) ∧ w'.cell? ⟨gt, 0, none⟩ = some (.string T.name) ∧ w'.cell? ⟨gt, 1, none⟩ = some (.int .i64 T.tracks) ∧ w'.cell? ⟨gt, 2, none⟩ = some (.slice A T.labels.length c) ∧ w'.cell? ⟨gn, 0, none⟩ = some (.int .i64 n)) w2 → (fun w' : World => w'.cell? ⟨g, k * 5, none⟩ = some (.int .i64 T.labels[k].id) ∧ w'.cell? ⟨g, k * 5 + 4, none⟩ = some (.slice B T.labels[k].ext.length d) ∧ w'.cell? ⟨gt, 0, none⟩ = some (.string T.name) ∧ w'.cell? ⟨gt, 1, none⟩ = some (.int .i64 T.tracks) ∧ w'.cell? ⟨gt, 2, none⟩ = some (.slice A T.labels.length c) ∧ w'.cell? ⟨gn, 0, none⟩ = some (.int .i64 n)) w3 := fun w2 w3 h9 z1 z2 z3 h8 => by
    simp only [h9.cellEq _ _ z1, h9.cellEq _ _ z2, h9.cellEq _ _ z3]
    exact h8
  have HSG := Lib.hid hSg
  have hgt := ht1.lt
  have hgn := hb1.lt
  clear h hrow hla hfar hkf hke her ht hb ht1 hb1 hT hSg
  go_enter Try.func85, Try.ntmps85
  go_wp2_with fail
  refine wp_region_R [] (fun w' : World => w'.cell? ⟨g, k * 5, none⟩ = some (.int .i64 T.labels[k].id) ∧ w'.cell? ⟨g, k * 5 + 4, none⟩ = some (.slice B T.labels[k].ext.length d) ∧ w'.cell? ⟨gt, 0, none⟩ = some (.string T.name) ∧ w'.cell? ⟨gt, 1, none⟩ = some (.int .i64 T.tracks) ∧ w'.cell? ⟨gt, 2, none⟩ = some (.slice A T.labels.length c) ∧ w'.cell? ⟨gn, 0, none⟩ = some (.int .i64 n)) (by kernel_rfl) ?_
  refine wpAnyR_takeQ (i := 0) (v := ?_) (some 10) rfl rfl (by kernel_rfl) (by kernel_rfl) (by kernel_rfl) (by kernel_rfl) (fun _ _ _ h => h) (Or.inl ⟨by rfl, ?_⟩) ?_
  rotate_left
  focus (intro wS hSw; (try dsimp only at hSw); go_simp; (try with_reducible rfl); (try (first | (rw [if_pos (by omega)]; (try go_simp); (try with_reducible rfl)) | (rw [if_neg (by omega)]; (try go_simp); (try with_reducible rfl)))))
  try simp only [Act.put, zA, zB, zC]
  refine wpAnyR_take (i := 1) (v := ?_) [2, 3, 7, 8, 9, 10, 11, 12] (some 11) rfl rfl (by kernel_rfl) (by kernel_rfl) (by kernel_rfl) (by kernel_rfl) (by kernel_rfl) (by kernel_rfl) (by kernel_rfl) (fun _ _ _ h => h) (Or.inl ⟨by rfl, ?_⟩) hS ?_
  rotate_left
  focus (intro wS hSw; (try dsimp only at hSw); go_simp; (try with_reducible rfl); (try (first | (rw [if_pos (by omega)]; (try go_simp); (try with_reducible rfl)) | (rw [if_neg (by omega)]; (try go_simp); (try with_reducible rfl)))))
  try simp only [Act.put, zA, zB, zC]
  refine wpAnyR_takeQ (i := 2) (v := ?_) (some 12) rfl rfl (by kernel_rfl) (by kernel_rfl) (by kernel_rfl) (by kernel_rfl) (fun _ _ _ h => h) (Or.inl ⟨by rfl, ?_⟩) ?_
  rotate_left
  focus (intro wS hSw; (try dsimp only at hSw); go_simp; (try with_reducible rfl); (try (first | (rw [if_pos (by omega)]; (try go_simp); (try with_reducible rfl)) | (rw [if_neg (by omega)]; (try go_simp); (try with_reducible rfl)))))
  try simp only [Act.put, zA, zB, zC]
  refine wpAnyR_take (i := 3) (v := ?_) [7, 8, 9, 10, 11, 12] (some 13) rfl rfl (by kernel_rfl) (by kernel_rfl) (by kernel_rfl) (by kernel_rfl) (by kernel_rfl) (by kernel_rfl) (by kernel_rfl) (fun _ _ _ h => h) (Or.inl ⟨by rfl, ?_⟩) hS ?_
  rotate_left
  focus (intro wS hSw; (try dsimp only at hSw); go_simp; (try with_reducible rfl); (try (first | (rw [if_pos (by omega)]; (try go_simp); (try with_reducible rfl)) | (rw [if_neg (by omega)]; (try go_simp); (try with_reducible rfl)))))
  try simp only [Act.put, zA, zB, zC]
  refine wpAnyR_take (i := 4) (v := ?_) [5, 7, 8, 9, 10, 11, 12] (some 14) rfl rfl (by kernel_rfl) (by kernel_rfl) (by kernel_rfl) (by kernel_rfl) (by kernel_rfl) (by kernel_rfl) (by kernel_rfl) (fun _ _ _ h => h) (Or.inl ⟨by rfl, ?_⟩) hS ?_
  rotate_left
  focus (intro wS hSw; (try dsimp only at hSw); go_simp; (try with_reducible rfl); (try (first | (rw [if_pos (by omega)]; (try go_simp); (try with_reducible rfl)) | (rw [if_neg (by omega)]; (try go_simp); (try with_reducible rfl)))))
  try simp only [Act.put, zA, zB, zC]
  refine wpAnyR_take (i := 6) (v := ?_) [7, 8, 9, 10, 11, 12] (some 16) rfl rfl (by kernel_rfl) (by kernel_rfl) (by kernel_rfl) (by kernel_rfl) (by kernel_rfl) (by kernel_rfl) (by kernel_rfl) (fun _ _ _ h => h) (Or.inl ⟨by rfl, ?_⟩) hS ?_
  rotate_left
  focus (intro wS hSw; (try dsimp only at hSw); go_simp; (try with_reducible rfl); (try (first | (rw [if_pos (by omega)]; (try go_simp); (try with_reducible rfl)) | (rw [if_neg (by omega)]; (try go_simp); (try with_reducible rfl)))))
  try simp only [Act.put, zA, zB, zC]
  refine wpAnyR_n1 (i := 5) rfl (by kernel_rfl) ?_
  intro K' hK
  rw [if_pos (by rfl)]
  simp only [List.getElem_toArray, List.getElem_cons_succ, List.getElem_cons_zero]
  go_wp2_with fail
  refine (HFC.out _ (Grew.refl w1).drew).mono ?_
  rintro e w2 ⟨A5, c5, rfl, hr5, g2⟩
  have g2' : Grew w1 w2 := (Grew.refl w1).drew.trans g2
  have hS2 := HSG.out _ _ g2 hg1.2 hgt hgn hS
  have HR5 := Lib.hid hr5
  clear hr5
  go_wp2_with fail
  refine hK.out _ _ (.inr (fun _ => hS2)) ?_
  clear hK
  refine wpAnyR_n1 (i := 7) rfl (by kernel_rfl) ?_
  intro K' hK
  rw [if_pos (by rfl)]
  simp only [List.getElem_toArray, List.getElem_cons_succ, List.getElem_cons_zero]
  go_wp2_with fail
  refine (HX.out w2 g2' A5 c5 HR5.out).mono ?_
  rintro e w3 ⟨A6, c6, rfl, hr6, g3⟩
  have g3' : Grew w1 w3 := g2'.trans g3
  have HR6 := Lib.hid hr6
  have hF6 : ∀ b off, A6 = some ⟨b, off, none⟩ → b ≠ g := fun b off e => by have := hr6.2.2.2 b off e; have := g2'.size; omega
  have HF6 := Lib.hid hF6
  clear hr6 hF6
  go_wp2_with fail
  refine hK.out _ _ (.inr (fun h => by
    simp only [g3.cellEq _ _ (Nat.lt_of_lt_of_le hg1.2 g2'.size), g3.cellEq _ _ (Nat.lt_of_lt_of_le hgt g2'.size), g3.cellEq _ _ (Nat.lt_of_lt_of_le hgn g2'.size)]
    exact h)) ?_
  clear hK
  refine wpAnyR_takeQ (i := 8) (v := ?_) (some 9) rfl rfl (by kernel_rfl) (by kernel_rfl) (by kernel_rfl) (by kernel_rfl) (fun _ _ _ h => h) (Or.inl ⟨by rfl, ?_⟩) ?_
  rotate_left
  focus (intro wS hSw; (try dsimp only at hSw); go_simp; (try with_reducible rfl); (try (first | (rw [if_pos (by omega)]; (try go_simp); (try with_reducible rfl)) | (rw [if_neg (by omega)]; (try go_simp); (try with_reducible rfl)))))
  try simp only [Act.put, zA, zB, zC]
  refine wpAnyR_takeQ (i := 9) (v := ?_) (some 18) rfl rfl (by kernel_rfl) (by kernel_rfl) (by kernel_rfl) (by kernel_rfl) (fun _ _ _ h => h) (Or.inl ⟨by rfl, ?_⟩) ?_
  rotate_left
  focus (intro wS hSw; (try dsimp only at hSw); go_simp; (try with_reducible rfl); (try (first | (rw [if_pos (by omega)]; (try go_simp); (try with_reducible rfl)) | (rw [if_neg (by omega)]; (try go_simp); (try with_reducible rfl)))))
  try simp only [Act.put, zA, zB, zC]
  refine wpAnyR_takeQ (i := 10) (v := ?_) (some 19) rfl rfl (by kernel_rfl) (by kernel_rfl) (by kernel_rfl) (by kernel_rfl) (fun _ _ _ h => h) (Or.inl ⟨by rfl, ?_⟩) ?_
  rotate_left
  focus (intro wS hSw; (try dsimp only at hSw); go_simp; (try with_reducible rfl); (try (first | (rw [if_pos (by omega)]; (try go_simp); (try with_reducible rfl)) | (rw [if_neg (by omega)]; (try go_simp); (try with_reducible rfl)))))
  try simp only [Act.put, zA, zB, zC]
  refine wpAnyR_takeQ (i := 11) (v := ?_) (some 7) rfl rfl (by kernel_rfl) (by kernel_rfl) (by kernel_rfl) (by kernel_rfl) (fun _ _ _ h => h) (Or.inl ⟨by rfl, ?_⟩) ?_
  rotate_left
  focus (intro wS hSw; (try dsimp only at hSw); go_simp; (try with_reducible rfl); (try (first | (rw [if_pos (by omega)]; (try go_simp); (try with_reducible rfl)) | (rw [if_neg (by omega)]; (try go_simp); (try with_reducible rfl)))))
  try simp only [Act.put, zA, zB, zC]
  refine wpAnyR_takeQ (i := 12) (v := ?_) (some 8) rfl rfl (by kernel_rfl) (by kernel_rfl) (by kernel_rfl) (by kernel_rfl) (fun _ _ _ h => h) (Or.inl ⟨by rfl, ?_⟩) ?_
  rotate_left
  focus (intro wS hSw; (try dsimp only at hSw); go_simp; (try with_reducible rfl); (try (first | (rw [if_pos (by omega)]; (try go_simp); (try with_reducible rfl)) | (rw [if_neg (by omega)]; (try go_simp); (try with_reducible rfl)))))
  try simp only [Act.put, zA, zB, zC]
  refine wpAnyR_done (by kernel_rfl) ?_ _
  have ht3 := HTAB.out.hold g3'
  have hl3 := HLA.out.hold g3'
  have hl6 : LabAt w3 A6 c6 { T.labels[k] with ext := ke } := ⟨hl3.id0, hl3.id1, hl3.unit0, hl3.unit1, hl3.name, hl3.note, HR6.out.1, HR6.out.2.1, HR6.out.2.2.1⟩
  have HT6 := Lib.hid (ht3.field hk HROW.out 4 (by decide) (.slice A6 ke.length c6) ⟨A6, c6, { T.labels[k] with ext := ke }⟩ rfl hl6 (fun _ => HF6.out))
  have HTU := Lib.hid ((g3'.turned (fun x => x = g)).trans (set_turned w3 g (k * 5 + 4) (.slice A6 ke.length c6)))
  have z4 : w3.cell? ⟨g, k * 5 + 4, none⟩ = some (.slice B T.labels[k].ext.length d) := ht3.own.cell HROW.out (i := 4) rfl
  have z0 : w3.cell? ⟨g, k * 5, none⟩ = some (.int .i64 T.labels[k].id) := ht3.own.cell0 HROW.out rfl
  have zf := ht3.own.frozen (k * 5 + 4)
  have hzs := Nat.lt_of_lt_of_le hg1.2 g3'.size
  clear ht3 hl3 hl6 hS2 hS y0 y4 g2 g3 g2' g3'
  go_wp2_with fail
  go_ret
  rw [HE.out]
  exact ⟨rfl, ⟨_, HT6.out⟩, HTU.out⟩
set_option maxRecDepth 100000 in
set_option maxHeartbeats 4000000 in
theorem release1_any (hs : SmallT T) (n : Int) (n0 : -9223372036854775808 ≤ n) (n1 : n ≤ 9223372036854775807) (gn : Nat) (hb : Blk w gn 3 #[.int .i64 n]) :
    Calls Try.prog 87 #[.pointer (some ⟨g, k * 5, none⟩), .pointer (some ⟨xo, 0, none⟩), .pointer (some ⟨gn, 0, none⟩)] w1 (ChgR w1 base g cap T.labels.length (chRel T n k T.labels[k])) := by
  obtain ⟨B, d, hrow, hla, hfar, _⟩ := h.tab.row hk
  have hle := hs.ext T.labels[k] (List.getElem_mem hk)
  have hb1 := hb.grew h.grew
  have hg1 := h.tab.own.block_lt
  have y0 : w1.cell? ⟨g, k * 5, none⟩ = some (.int .i64 T.labels[k].id) := h.tab.own.cell0 hrow rfl
  have y4 : w1.cell? ⟨g, k * 5 + 4, none⟩ = some (.slice B T.labels[k].ext.length d) := h.tab.own.cell hrow (i := 4) rfl
  obtain ⟨ke, hke⟩ : ∃ ke, relA T.labels[k].ext n = ke := ⟨_, rfl⟩
  obtain ⟨er, her⟩ : ∃ er, relE T.labels[k].ext n = er := ⟨_, rfl⟩
  have HE := Lib.hid (show chRel T n k T.labels[k] = (T.labels.set k { T.labels[k] with ext := ke }, er) from by unfold chRel; rw [hke, her])
  have HX := Lib.hid (fun (w2 : World) (g2 : Grew w1 w2) => release_new (A := B) (c := d) (m := T.labels[k].ext.length) (w := w2) rfl hle ((hla.hold g2).runs) n n0 n1 ke er hke her)
  have HTAB := Lib.hid h.tab
  have HROW := Lib.hid hrow
  have HLA := Lib.hid hla
  have HB1 := Lib.hid hb1
  have hS : (fun w' : World => w'.cell? ⟨g, k * 5, none⟩ = some (.int .i64 T.labels[k].id) ∧ w'.cell? ⟨g, k * 5 + 4, none⟩ = some (.slice B T.labels[k].ext.length d) ∧ w'.cell? ⟨gn, 0, none⟩ = some (.int .i64 n)) w1.drew := ⟨y0, y4, hb1.cell 0⟩
  have hgn := hb1.lt
  clear h hrow hla hfar hke her hb hb1
  go_enter Try.func87, Try.ntmps87
  go_wp2_with fail
  refine wp_region_R [] (fun w' : World => w'.cell? ⟨g, k * 5, none⟩ = some (.int .i64 T.labels[k].id) ∧ w'.cell? ⟨g, k * 5 + 4, none⟩ = some (.slice B T.labels[k].ext.length d) ∧ w'.cell? ⟨gn, 0, none⟩ = some (.int .i64 n)) (by kernel_rfl) ?_
  refine wpAnyR_takeQ (i := 0) (v := ?_) (some 10) rfl rfl (by kernel_rfl) (by kernel_rfl) (by kernel_rfl) (by kernel_rfl) (fun _ _ _ h => h) (Or.inl ⟨by rfl, ?_⟩) ?_
  rotate_left
  focus (intro wS hSw; (try dsimp only at hSw); go_simp; (try with_reducible rfl); (try (first | (rw [if_pos (by omega)]; (try go_simp); (try with_reducible rfl)) | (rw [if_neg (by omega)]; (try go_simp); (try with_reducible rfl)))))
  try simp only [Act.put, zA, zB, zC]
  refine wpAnyR_take (i := 1) (v := ?_) [2, 3, 5, 6, 7, 8, 9, 10, 11, 12] (some 11) rfl rfl (by kernel_rfl) (by kernel_rfl) (by kernel_rfl) (by kernel_rfl) (by kernel_rfl) (by kernel_rfl) (by kernel_rfl) (fun _ _ _ h => h) (Or.inl ⟨by rfl, ?_⟩) hS ?_
  rotate_left
  focus (intro wS hSw; (try dsimp only at hSw); go_simp; (try with_reducible rfl); (try (first | (rw [if_pos (by omega)]; (try go_simp); (try with_reducible rfl)) | (rw [if_neg (by omega)]; (try go_simp); (try with_reducible rfl)))))
  try simp only [Act.put, zA, zB, zC]
  refine wpAnyR_takeQ (i := 2) (v := ?_) (some 12) rfl rfl (by kernel_rfl) (by kernel_rfl) (by kernel_rfl) (by kernel_rfl) (fun _ _ _ h => h) (Or.inl ⟨by rfl, ?_⟩) ?_
  rotate_left
  focus (intro wS hSw; (try dsimp only at hSw); go_simp; (try with_reducible rfl); (try (first | (rw [if_pos (by omega)]; (try go_simp); (try with_reducible rfl)) | (rw [if_neg (by omega)]; (try go_simp); (try with_reducible rfl)))))
  try simp only [Act.put, zA, zB, zC]
  refine wpAnyR_take (i := 3) (v := ?_) [5, 6, 7, 8, 9, 10, 11, 12] (some 13) rfl rfl (by kernel_rfl) (by kernel_rfl) (by kernel_rfl) (by kernel_rfl) (by kernel_rfl) (by kernel_rfl) (by kernel_rfl) (fun _ _ _ h => h) (Or.inl ⟨by rfl, ?_⟩) hS ?_
  rotate_left
  focus (intro wS hSw; (try dsimp only at hSw); go_simp; (try with_reducible rfl); (try (first | (rw [if_pos (by omega)]; (try go_simp); (try with_reducible rfl)) | (rw [if_neg (by omega)]; (try go_simp); (try with_reducible rfl)))))
  try simp only [Act.put, zA, zB, zC]
  refine wpAnyR_take (i := 4) (v := ?_) [5, 6, 7, 8, 9, 10, 11, 12] (some 14) rfl rfl (by kernel_rfl) (by kernel_rfl) (by kernel_rfl) (by kernel_rfl) (by kernel_rfl) (by kernel_rfl) (by kernel_rfl) (fun _ _ _ h => h) (Or.inl ⟨by rfl, ?_⟩) hS ?_
  rotate_left
  focus (intro wS hSw; (try dsimp only at hSw); go_simp; (try with_reducible rfl); (try (first | (rw [if_pos (by omega)]; (try go_simp); (try with_reducible rfl)) | (rw [if_neg (by omega)]; (try go_simp); (try with_reducible rfl)))))
  try simp only [Act.put, zA, zB, zC]
  refine wpAnyR_n1 (i := 5) rfl (by kernel_rfl) ?_
  intro K' hK
  rw [if_pos (by rfl)]
  simp only [List.getElem_toArray, List.getElem_cons_succ, List.getElem_cons_zero]
  go_wp2_with fail
  refine (HX.out _ (Grew.refl w1).drew).mono ?_
  rintro e w3 ⟨A6, c6, A7, n7, c7, rfl, hr6, g3⟩
  have g3' : Grew w1 w3 := (Grew.refl w1).drew.trans g3
  have HR6 := Lib.hid hr6
  have hF6 : ∀ b off, A6 = some ⟨b, off, none⟩ → b ≠ g := fun b off e => by have : w1.heap.size ≤ b := hr6.2.2.2 b off e; omega
  have HF6 := Lib.hid hF6
  clear hr6 hF6
  go_wp2_with fail
  refine hK.out _ _ (.inr (fun h => by
    simp only [g3'.cellEq _ _ hg1.2, g3'.cellEq _ _ hgn]
    exact h)) ?_
  clear hK
  refine wpAnyR_takeQ (i := 6) (v := ?_) (some 9) rfl rfl (by kernel_rfl) (by kernel_rfl) (by kernel_rfl) (by kernel_rfl) (fun _ _ _ h => h) (Or.inl ⟨by rfl, ?_⟩) ?_
  rotate_left
  focus (intro wS hSw; (try dsimp only at hSw); go_simp; (try with_reducible rfl); (try (first | (rw [if_pos (by omega)]; (try go_simp); (try with_reducible rfl)) | (rw [if_neg (by omega)]; (try go_simp); (try with_reducible rfl)))))
  try simp only [Act.put, zA, zB, zC]
  refine wpAnyR_takeQ (i := 7) (v := ?_) (some 16) rfl rfl (by kernel_rfl) (by kernel_rfl) (by kernel_rfl) (by kernel_rfl) (fun _ _ _ h => h) (Or.inl ⟨by rfl, ?_⟩) ?_
  rotate_left
  focus (intro wS hSw; (try dsimp only at hSw); go_simp; (try with_reducible rfl); (try (first | (rw [if_pos (by omega)]; (try go_simp); (try with_reducible rfl)) | (rw [if_neg (by omega)]; (try go_simp); (try with_reducible rfl)))))
  try simp only [Act.put, zA, zB, zC]
  refine wpAnyR_takeQ (i := 8) (v := ?_) (some 17) rfl rfl (by kernel_rfl) (by kernel_rfl) (by kernel_rfl) (by kernel_rfl) (fun _ _ _ h => h) (Or.inl ⟨by rfl, ?_⟩) ?_
  rotate_left
  focus (intro wS hSw; (try dsimp only at hSw); go_simp; (try with_reducible rfl); (try (first | (rw [if_pos (by omega)]; (try go_simp); (try with_reducible rfl)) | (rw [if_neg (by omega)]; (try go_simp); (try with_reducible rfl)))))
  try simp only [Act.put, zA, zB, zC]
  refine wpAnyR_takeQ (i := 9) (v := ?_) (some 18) rfl rfl (by kernel_rfl) (by kernel_rfl) (by kernel_rfl) (by kernel_rfl) (fun _ _ _ h => h) (Or.inl ⟨by rfl, ?_⟩) ?_
  rotate_left
  focus (intro wS hSw; (try dsimp only at hSw); go_simp; (try with_reducible rfl); (try (first | (rw [if_pos (by omega)]; (try go_simp); (try with_reducible rfl)) | (rw [if_neg (by omega)]; (try go_simp); (try with_reducible rfl)))))
  try simp only [Act.put, zA, zB, zC]
  refine wpAnyR_takeQ (i := 10) (v := ?_) (some 6) rfl rfl (by kernel_rfl) (by kernel_rfl) (by kernel_rfl) (by kernel_rfl) (fun _ _ _ h => h) (Or.inl ⟨by rfl, ?_⟩) ?_
  rotate_left
  focus (intro wS hSw; (try dsimp only at hSw); go_simp; (try with_reducible rfl); (try (first | (rw [if_pos (by omega)]; (try go_simp); (try with_reducible rfl)) | (rw [if_neg (by omega)]; (try go_simp); (try with_reducible rfl)))))
  try simp only [Act.put, zA, zB, zC]
  refine wpAnyR_takeQ (i := 11) (v := ?_) (some 7) rfl rfl (by kernel_rfl) (by kernel_rfl) (by kernel_rfl) (by kernel_rfl) (fun _ _ _ h => h) (Or.inl ⟨by rfl, ?_⟩) ?_
  rotate_left
  focus (intro wS hSw; (try dsimp only at hSw); go_simp; (try with_reducible rfl); (try (first | (rw [if_pos (by omega)]; (try go_simp); (try with_reducible rfl)) | (rw [if_neg (by omega)]; (try go_simp); (try with_reducible rfl)))))
  try simp only [Act.put, zA, zB, zC]
  refine wpAnyR_takeQ (i := 12) (v := ?_) (some 8) rfl rfl (by kernel_rfl) (by kernel_rfl) (by kernel_rfl) (by kernel_rfl) (fun _ _ _ h => h) (Or.inl ⟨by rfl, ?_⟩) ?_
  rotate_left
  focus (intro wS hSw; (try dsimp only at hSw); go_simp; (try with_reducible rfl); (try (first | (rw [if_pos (by omega)]; (try go_simp); (try with_reducible rfl)) | (rw [if_neg (by omega)]; (try go_simp); (try with_reducible rfl)))))
  try simp only [Act.put, zA, zB, zC]
  refine wpAnyR_done (by kernel_rfl) ?_ _
  have ht3 := HTAB.out.hold g3'
  have hl3 := HLA.out.hold g3'
  have hl6 : LabAt w3 A6 c6 { T.labels[k] with ext := ke } := ⟨hl3.id0, hl3.id1, hl3.unit0, hl3.unit1, hl3.name, hl3.note, HR6.out.1, HR6.out.2.1, HR6.out.2.2.1⟩
  have HT6 := Lib.hid (ht3.field hk HROW.out 4 (by decide) (.slice A6 ke.length c6) ⟨A6, c6, { T.labels[k] with ext := ke }⟩ rfl hl6 (fun _ => HF6.out))
  have HTU := Lib.hid ((g3'.turned (fun x => x = g)).trans (set_turned w3 g (k * 5 + 4) (.slice A6 ke.length c6)))
  have z4 : w3.cell? ⟨g, k * 5 + 4, none⟩ = some (.slice B T.labels[k].ext.length d) := ht3.own.cell HROW.out (i := 4) rfl
  have z0 : w3.cell? ⟨g, k * 5, none⟩ = some (.int .i64 T.labels[k].id) := ht3.own.cell0 HROW.out rfl
  have zf := ht3.own.frozen (k * 5 + 4)
  have hzs := Nat.lt_of_lt_of_le hg1.2 g3'.size
  clear ht3 hl3 hl6 hS y0 y4 g3 g3'
  go_wp2_with fail
  go_ret
  rw [HE.out]
  exact ⟨rfl, ⟨_, HT6.out⟩, HTU.out⟩
end
end Go.Proofs.Ytnlaogneceanoaa
namespace Go.Proofs.Ytnlaogneceanoaa
set_option linter.unusedVariables false
set_option linter.unusedSimpArgs false
set_option linter.unusedSectionVars false
open Go.RowKit
attribute [local go_sem ↓] Go.wp_at_zero Go.wp_at_succ
theorem TabO.row0 {w : World} {base g n cap : Nat} {ys : List LabE} {ls : List Lab} (h : TabO w base (.slice (some ⟨g, 0, none⟩) n cap) ys ls) {k : Nat} (hk : k < ls.length) : w.cell? ⟨g, k * 5, none⟩ = some (.int .i64 ls[k].id) := by
  obtain ⟨B, d, hrow, _, _, _⟩ := h.row hk
  exact h.own.cell0 hrow rfl
theorem TabO.row1 {w : World} {base g n cap : Nat} {ys : List LabE} {ls : List Lab} (h : TabO w base (.slice (some ⟨g, 0, none⟩) n cap) ys ls) {k : Nat} (hk : k < ls.length) : w.cell? ⟨g, k * 5 + 1, none⟩ = some (.int .i64 ls[k].unit) := by
  obtain ⟨B, d, hrow, _, _, _⟩ := h.row hk
  exact h.own.cell hrow (i := 1) rfl
theorem TabO.row3 {w : World} {base g n cap : Nat} {ys : List LabE} {ls : List Lab} (h : TabO w base (.slice (some ⟨g, 0, none⟩) n cap) ys ls) {k : Nat} (hk : k < ls.length) : w.cell? ⟨g, k * 5 + 3, none⟩ = some (.string ls[k].note) := by
  obtain ⟨B, d, hrow, _, _, _⟩ := h.row hk
  exact h.own.cell hrow (i := 3) rfl
theorem TabO.unit_ {w : World} {base g n cap : Nat} {ys : List LabE} {ls : List Lab} (h : TabO w base (.slice (some ⟨g, 0, none⟩) n cap) ys ls) {k : Nat} (hk : k < ls.length) (u : Int) (hu : -9223372036854775808 ≤ u ∧ u ≤ 9223372036854775807) : ∃ ys', TabO (w.setCell ⟨g, k * 5 + 1, none⟩ (.int .i64 u)) base (.slice (some ⟨g, 0, none⟩) n cap) ys' (ls.set k { ls[k] with unit := u }) := by
  obtain ⟨B, d, hrow, hla, hfar, _⟩ := h.row hk
  exact ⟨_, h.field hk hrow 1 (by decide) (.int .i64 u) ⟨B, d, { ls[k] with unit := u }⟩ rfl ⟨hla.id0, hla.id1, hu.1, hu.2, hla.name, hla.note, hla.runs, hla.len, hla.cap⟩ hfar⟩
theorem TabO.note_ {w : World} {base g n cap : Nat} {ys : List LabE} {ls : List Lab} (h : TabO w base (.slice (some ⟨g, 0, none⟩) n cap) ys ls) {k : Nat} (hk : k < ls.length) (u : ByteArray) (hu : u.size ≤ 9223372036854775807) : ∃ ys', TabO (w.setCell ⟨g, k * 5 + 3, none⟩ (.string u)) base (.slice (some ⟨g, 0, none⟩) n cap) ys' (ls.set k { ls[k] with note := u }) := by
  obtain ⟨B, d, hrow, hla, hfar, _⟩ := h.row hk
  exact ⟨_, h.field hk hrow 3 (by decide) (.string u) ⟨B, d, { ls[k] with note := u }⟩ rfl ⟨hla.id0, hla.id1, hla.unit0, hla.unit1, hla.name, hu, hla.runs, hla.len, hla.cap⟩ hfar⟩
theorem runs_turned {S : Nat → Prop} {w w' : World} {A : Option Addr} {l : List (Int × Int)} (h : RunsAt w w.heap.size A l) (ht : Turned S w w') (hS : 0 < l.length → ∀ b off, A = some ⟨b, off, none⟩ → ¬ S b) : RunsAt w' w'.heap.size A l :=
  ⟨h.1, fun h0 => by
    obtain ⟨b, off, e, hb, hc⟩ := h.2 h0
    exact ⟨b, off, e, Nat.lt_of_lt_of_le hb ht.size, fun j cs hj i v hi => by rw [ht.cellEq _ _ hb (hS (by simpa using h0) b off e)]; exact hc j cs hj i v hi⟩⟩
theorem TabO.tabAt {w : World} {base g n cap : Nat} {ys : List LabE} {ls : List Lab} (h : TabO w base (.slice (some ⟨g, 0, none⟩) n cap) ys ls) (nm : ByteArray) (t : Int) (hn : nm.size ≤ 9223372036854775807) (t0 : -9223372036854775808 ≤ t) (t1 : t ≤ 9223372036854775807) : TabAt w (some ⟨g, 0, none⟩) cap ys ⟨nm, t, ls⟩ := by
  obtain ⟨A, c, hv, ht⟩ := h.form
  injection hv with h1 _ h3
  rw [h1, h3]
  exact ht nm t hn t0 t1
section
variable (w w1 : World) (base g cap xo : Nat) (ys : List LabE) (T : Tab) (k : Nat) (hk : k < T.labels.length) (h : OutAt w w1 base g cap xo ys T)
include h
set_option maxRecDepth 100000 in
set_option maxHeartbeats 8000000 in
theorem replace1_any (hs : SmallT T) (hn0 : T.name.size ≤ 9223372036854775807) (ht0 : -9223372036854775808 ≤ T.tracks) (ht1 : T.tracks ≤ 9223372036854775807) (Ax : Option Addr) (cx : Nat) (ex : List (Int × Int)) (hx : RunsAt w w.heap.size Ax ex) (hxl : ex.length ≤ 1000) (ge : Nat) (hb : Blk w ge 22 #[.slice Ax ex.length cx]) :
    Calls Try.prog 89 #[.pointer (some ⟨g, k * 5, none⟩), .pointer (some ⟨xo, 0, none⟩), .pointer (some ⟨ge, 0, none⟩)] w1 (ChgR w1 base g cap T.labels.length (chRep T ex k T.labels[k])) := by
  obtain ⟨B, d, hrow, hla, hfar, _⟩ := h.tab.row hk
  have hle := hs.ext T.labels[k] (List.getElem_mem hk)
  have hb1 := hb.grew h.grew
  have hg1 := h.tab.own.block_lt
  have hxo := h.blk.lt
  have hne := h.ne
  have y0 : w1.cell? ⟨g, k * 5, none⟩ = some (.int .i64 T.labels[k].id) := h.tab.row0 hk
  have y4 : w1.cell? ⟨g, k * 5 + 4, none⟩ = some (.slice B T.labels[k].ext.length d) := h.tab.own.cell hrow (i := 4) rfl
  have HS1 := Lib.hid (size_val (A := B) (c := d) (n := T.labels[k].ext.length) rfl (by omega) hla.runs _ rfl)
  have HX := Lib.hid (fun (w2 : World) (g2 : Grew w1 w2) => clone_runs Ax cx ex.length ex w2 rfl (by omega) ((hx.keep (Nat.le_refl _) (h.grew.trans g2)).mono2 (h.grew.trans g2).size).2)
  have HX2 := Lib.hid (fun (w2 : World) (g2 : Grew w1 w2) => ((hx.keep (Nat.le_refl _) (h.grew.trans g2)).mono2 (h.grew.trans g2).size : RunsAt w2 w2.heap.size Ax ex))
  have HOK := Lib.hid hx.1
  have HTAB := Lib.hid h.tab
  have HBO := Lib.hid h.blk
  have HROW := Lib.hid hrow
  have HLA := Lib.hid hla
  have HB1 := Lib.hid hb1
  have hge := hb1.lt
  have hgw := hb.lt
  have hgg : ¬ ge = g := by have := h.hg; omega
  have HAX := Lib.hid (show ∀ b off, 0 < ex.length → Ax = some ⟨b, off, none⟩ → b ≠ g from fun b off h0 e => by
    obtain ⟨b', off', e', hb', _⟩ := hx.2 (by simpa using h0)
    rw [e] at e'
    injection e' with e'
    injection e' with e'
    have := h.hg
    omega)
  have x0 := hb1.cell 0
  obtain ⟨T', hT'⟩ : ∃ T' : Tab, T' = { T with labels := T.labels.set k { T.labels[k] with ext := ex } } := ⟨_, rfl⟩
  have HSM := Lib.hid (show SmallT T' from by
    subst hT'
    refine ⟨by simpa using hs.len, fun l hl => ?_⟩
    rcases List.mem_or_eq_of_mem_set hl with hl | rfl
    · exact hs.ext l hl
    · exact hxl)
  have HL' := Lib.hid (show T'.labels = T.labels.set k { T.labels[k] with ext := ex } from by rw [hT'])
  have HLN := Lib.hid (show T.labels.length = T'.labels.length from by rw [hT']; simp)
  have HN' := Lib.hid (show T'.name = T.name from by rw [hT'])
  have HTR' := Lib.hid (show T'.tracks = T.tracks from by rw [hT'])
  have HCH := Lib.hid (show chRep T ex k T.labels[k] = (T.labels.set k { T.labels[k] with ext := ex }, if sizeS ex = sizeS T.labels[k].ext ∧ validT T' = true then 0 else 1) from by rw [hT']; rfl)
  have hsz1 := sizeS_le ex
  have hsz2 := sizeS_le T.labels[k].ext
  clear h hrow hla hfar hb hb1 hT' hx
  go_enter Try.func89, Try.ntmps89
  go_wp2_with fail
  refine HS1.out.mono ?_
  rintro e w2 ⟨rfl, g2⟩
  have x0 := (HB1.out.grew g2).cell 0
  have hge2 := Nat.lt_of_lt_of_le hge g2.size
  go_wp2_with fail
  refine (HX.out w2 g2).mono ?_
  rintro e w3 ⟨v3, rfl, hown3, g3⟩
  obtain ⟨A3, c3, hv3, hlc3, hc3, hr3⟩ := own_runsL hown3 HOK.out
  subst hv3
  have g3' : Grew w1 w3 := g2.trans g3
  have hF3 := own_far hown3 (Nat.lt_of_lt_of_le hg1.2 g2.size) rfl
  have ht3 := HTAB.out.hold g3'
  have hl3 := HLA.out.hold g3'
  have hl6 : LabAt w3 A3 c3 { T.labels[k] with ext := ex } := ⟨hl3.id0, hl3.id1, hl3.unit0, hl3.unit1, hl3.name, hl3.note, hr3, hlc3, hc3⟩
  have HT6 := Lib.hid (ht3.field hk HROW.out 4 (by decide) (.slice A3 ex.length c3) ⟨A3, c3, { T.labels[k] with ext := ex }⟩ rfl hl6 (fun _ => hF3))
  have HTU := Lib.hid ((g3'.turned (fun x => x = g)).trans (set_turned w3 g (k * 5 + 4) (.slice A3 ex.length c3)))
  have z4 : w3.cell? ⟨g, k * 5 + 4, none⟩ = some (.slice B T.labels[k].ext.length d) := ht3.own.cell HROW.out (i := 4) rfl
  have z0 : w3.cell? ⟨g, k * 5, none⟩ = some (.int .i64 T.labels[k].id) := ht3.row0 hk
  have zf := ht3.own.frozen (k * 5 + 4)
  have hzs := Nat.lt_of_lt_of_le hg1.2 g3'.size
  have x3 := (HB1.out.grew g3').cell 0
  have hge3 := Nat.lt_of_lt_of_le hge g3'.size
  have b4 := (HB1.out.grew g3').far (p := ⟨g, k * 5 + 4, none⟩) hgg (.slice A3 ex.length c3)
  have o4 := (HBO.out.grew g3').far (p := ⟨g, k * 5 + 4, none⟩) hne (.slice A3 ex.length c3)
  have r4 := runs_turned (HX2.out w3 g3') (set_turned w3 g (k * 5 + 4) (.slice A3 ex.length c3)) (fun h0 b off e => HAX.out b off h0 e)
  have hz4 := (set_turned w3 g (k * 5 + 4) (.slice A3 ex.length c3)).size
  have HO4 := Lib.hid o4
  have HS2 := Lib.hid (size_val (A := Ax) (c := cx) (n := ex.length) rfl (by omega) r4 _ rfl)
  have hx4 := o4.lt
  clear hown3 hr3 hF3 ht3 hl3 hl6 g2 g3 g3' b4 o4 r4 y0 y4 x0
  by_cases hse : sizeS ex = sizeS T.labels[k].ext
  rotate_left
  · have hnb : ((sizeS ex : Int) != (sizeS T.labels[k].ext : Int)) = true := by rw [bne_iff_ne]; omega
    have HE := Lib.hid (HCH.out.trans (by rw [if_neg (fun h => hse h.1)]))
    clear hse
    go_wp2_with fail
    refine HS2.out.mono ?_
    rintro e w5 ⟨rfl, g5⟩
    go_wp2_with fail
    go_ret
    rw [HE.out]
    exact ⟨rfl, ⟨_, HT6.out.hold g5⟩, HTU.out.trans (g5.turned _)⟩
  have hnb : ((sizeS ex : Int) != (sizeS T.labels[k].ext : Int)) = false := by rw [bne_eq_false_iff_eq]; omega
  have HSE := Lib.hid hse
  clear hse
  go_wp2_with fail
  refine HS2.out.mono ?_
  rintro e w5 ⟨rfl, g5⟩
  have o5 := HO4.out.grew g5
  have u0 := o5.cell 0
  have u1 := o5.cell 1
  have u2 := o5.cell 2
  have hx5 := o5.lt
  have ht5 := (HT6.out.hold g5).tabAt T.name T.tracks hn0 ht0 ht1
  rw [← HL'.out] at ht5
  have HV := Lib.hid (valid_tab _ _ _ _ w5 ht5 (by have := HSM.out; exact ⟨this.len, this.ext⟩) T.labels.length HLN.out)
  have HVT := Lib.hid (show validT ⟨T.name, T.tracks, T'.labels⟩ = validT T' from by rw [← HN'.out, ← HTR'.out])
  have HG5 := Lib.hid g5
  clear o5 g5 ht5
  cases hv : validT T' with
  | false =>
    have HE := Lib.hid (HCH.out.trans (by rw [if_neg (fun h => by rw [hv] at h; cases h.2)]))
    have HVF := Lib.hid hv
    clear hv
    go_wp2_with fail
    refine HV.out.mono ?_
    rintro e w6 ⟨rfl, g6⟩
    rw [HVT.out, HVF.out]
    go_wp2_with fail
    go_ret
    rw [HE.out]
    exact ⟨rfl, ⟨_, (HT6.out.hold HG5.out).hold g6⟩, (HTU.out.trans (HG5.out.turned _)).trans (g6.turned _)⟩
  | true =>
    have HE := Lib.hid (HCH.out.trans (by rw [if_pos ⟨HSE.out, hv⟩]))
    have HVF := Lib.hid hv
    clear hv
    go_wp2_with fail
    refine HV.out.mono ?_
    rintro e w6 ⟨rfl, g6⟩
    rw [HVT.out, HVF.out]
    go_wp2_with fail
    go_ret
    rw [HE.out]
    exact ⟨rfl, ⟨_, (HT6.out.hold HG5.out).hold g6⟩, (HTU.out.trans (HG5.out.turned _)).trans (g6.turned _)⟩
end
end Go.Proofs.Ytnlaogneceanoaa
