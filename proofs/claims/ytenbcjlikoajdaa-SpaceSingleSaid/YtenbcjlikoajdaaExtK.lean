/- Join. -/
import Derived.Test.YtenbcjlikoajdaaExtJ
namespace Go.Proofs.Ytenbcjlikoajdaa
set_option linter.unusedVariables false
set_option linter.unusedSimpArgs false
set_option linter.unusedSectionVars false
open Go.RowKit
def stepJ (acc : List (Nat × Nat)) (r : Nat × Nat) : List (Nat × Nat) :=
  if r.2 = 0 then acc
  else if acc ≠ [] ∧ (acc.getD (acc.length - 1) (0, 0)).1 + (acc.getD (acc.length - 1) (0, 0)).2 = r.1 then acc.set (acc.length - 1) ((acc.getD (acc.length - 1) (0, 0)).1, (acc.getD (acc.length - 1) (0, 0)).2 + r.2)
  else acc ++ [r]
def joinS (l : List (Int × Int)) : List (Nat × Nat) := l.foldl (fun acc x => stepJ acc (clipS x)) []
theorem joinS_snoc (l : List (Int × Int)) (k : Nat) (h : k < l.length) : joinS (l.take (k + 1)) = stepJ (joinS (l.take k)) (clipS l[k]) := by
  unfold joinS
  rw [List.take_succ_eq_append_getElem h, List.foldl_append]
  rfl
theorem stepJ_len (acc : List (Nat × Nat)) (r : Nat × Nat) : (stepJ acc r).length ≤ acc.length + 1 := by
  unfold stepJ; repeat' split
  · omega
  · rw [List.length_set]; omega
  · simp
theorem stepJ_bd (acc : List (Nat × Nat)) (r : Nat × Nat) (h : ∀ x ∈ acc, x.1 + x.2 ≤ 128) (hr : r.1 + r.2 ≤ 128) : ∀ x ∈ stepJ acc r, x.1 + x.2 ≤ 128 := by
  intro x hx
  unfold stepJ at hx
  split at hx
  · exact h x hx
  · split at hx
    · rename_i hj
      rcases List.mem_or_eq_of_mem_set hx with hx | rfl
      · exact h x hx
      · simp only []; omega
    · rcases List.mem_append.1 hx with hx | hx
      · exact h x hx
      · rw [List.mem_singleton.1 hx]; exact hr
theorem joinS_inv (l : List (Int × Int)) : ∀ acc : List (Nat × Nat), (∀ x ∈ acc, x.1 + x.2 ≤ 128) → (∀ x ∈ l.foldl (fun acc x => stepJ acc (clipS x)) acc, x.1 + x.2 ≤ 128) ∧ (l.foldl (fun acc x => stepJ acc (clipS x)) acc).length ≤ acc.length + l.length := by
  induction l with
  | nil => intro acc h; exact ⟨h, by simp⟩
  | cons r l ih =>
    intro acc h
    have h1 := ih (stepJ acc (clipS r)) (stepJ_bd acc _ h (clipS_le r))
    have h2 := stepJ_len acc (clipS r)
    refine ⟨h1.1, ?_⟩
    have := h1.2
    simp only [List.foldl_cons, List.length_cons]
    omega
theorem joinS_bd (l : List (Int × Int)) : ∀ x ∈ joinS l, x.1 + x.2 ≤ 128 := (joinS_inv l [] (by simp)).1
theorem joinS_len (l : List (Int × Int)) : (joinS l).length ≤ l.length := by have := (joinS_inv l [] (by simp)).2; rw [List.length_nil, Nat.zero_add] at this; exact this
theorem rows_set' (l : List (Nat × Nat)) (j : Nat) (a b b' : Nat) : (l.map rowN).set j ((rowN (a, b)).set 1 (.int .i64 (b' : Int))) = (l.set j (a, b')).map rowN := by
  rw [List.map_set]; rfl
set_option maxRecDepth 100000 in
set_option maxHeartbeats 8000000 in
theorem join_any (A : Option Addr) (c : Nat) (l : List (Int × Int)) (w : World) (B : Nat) (hB : B ≤ w.heap.size) (hl : l.length ≤ 1000000) (hr : RunsAt w B A l) :
    Calls Try.prog 28 #[.slice A l.length c] w fun e w' => ∃ v, e = .returned v ∧ OwnL w' w.heap.size 25 2 v ((joinS l).map rowN) ∧ Grew w w' := by
  have HR := Lib.hid hr
  clear hr
  go_enter Try.func28, Try.ntmps28
  go_wp2_with fail
  go_loopg [3, 9] l.length (fun gk v i wr => ∃ k : Nat, k ≤ l.length ∧ gk = l.length - k ∧ i = .int .i64 k ∧ OwnL wr w.heap.size 25 2 v ((joinS (l.take k)).map rowN) ∧ Grew w wr)
  case atStart => exact ⟨0, by omega, by omega, rfl, OwnL.nil _ _ _ _, by (repeat' first | (with_reducible exact Grew.refl _) | (with_reducible assumption) | (with_reducible refine Grew.alloc ?_ _) | (with_reducible refine Grew.drew ?_) | (with_reducible refine Grew.drewN ?_ _) | (with_reducible refine Grew.setRow ?_ (by first | (simp; done) | (simp; omega) | omega) _) | (with_reducible refine Grew.setCell ?_ (by first | (simp; done) | (simp; omega) | omega) _) | ((with_reducible apply Grew.trans); rotate_left; (with_reducible assumption)) | ((with_reducible apply Grew.turn); rotate_left; (with_reducible assumption); (focus (intro i hi; first | omega | (simp at hi; omega)))) | fail)⟩
  case round =>
    obtain ⟨k, hk, hgk, rfl, hown, hg⟩ := hrel
    have HGK := Lib.hid hgk
    clear hgk
    by_cases hlt : k < l.length
    · obtain ⟨b, off, f, c, rfl, hb, hlk, ⟨f0, f1, c0, c1⟩, x0, x1⟩ := (HR.out.keep hB hg).at_ hlt
      simp only at f0 f1 c0 c1
      have hbs : b < wr.heap.size := by have := hg.size; omega
      have hws := hg.size
      have hle := clipS_le (f, c)
      have hsn := joinS_snoc l k hlt
      rw [hlk] at hsn
      have HN := Lib.hid hsn
      have hjl := joinS_len (l.take k)
      have hjl2 : (l.take k).length ≤ 1000000 := Nat.le_trans (List.length_take_le _ _) (by omega)
      have HJ := Lib.hid (joinS_bd (l.take k))
      clear hlk hsn
      have HC := fun W => Lib.hid (clip_any f c W f0 f1 c0 c1)
      generalize clipS (f, c) = r at *
      obtain ⟨lo, n⟩ := r
      generalize joinS (l.take k) = acc at *
      simp only at hle
      obtain ⟨Av, cv, hv, hcv1, hcv2, -⟩ := hown.listAt
      rw [List.length_map] at hv hcv1
      subst hv
      have hal : acc.length ≤ 1000000 := by omega
      by_cases hacc : acc = []
      · subst hacc
        have hne : (Value.slice Av ([] : List (Nat × Nat)).length cv).ownBlock ≠ some wr.heap.size := fun h => by have := (hown.own_ge h).2; omega
        go_wp2_with fail
        refine (HC _).out.mono ?_
        rintro e w1 ⟨rfl, g1⟩
        have hz1 : wr.heap.size < w1.heap.size := by have := g1.size; simp at this; omega
        have hr1 : Blk w1 wr.heap.size 25 #[.int .i64 f, .int .i64 c] := (Blk.new wr _ _ rfl).grew g1
        have hown1 := (hown.alloc (.cells #[.int .i64 f, .int .i64 c] 25)).grew g1
        have hg1 : Grew w w1 := by (repeat' first | (with_reducible exact Grew.refl _) | (with_reducible assumption) | (with_reducible refine Grew.alloc ?_ _) | (with_reducible refine Grew.drew ?_) | (with_reducible refine Grew.drewN ?_ _) | (with_reducible refine Grew.setRow ?_ (by first | (simp; done) | (simp; omega) | omega) _) | (with_reducible refine Grew.setCell ?_ (by first | (simp; done) | (simp; omega) | omega) _) | ((with_reducible apply Grew.trans); rotate_left; (with_reducible assumption)) | ((with_reducible apply Grew.turn); rotate_left; (with_reducible assumption); (focus (intro i hi; first | omega | (simp at hi; omega)))) | fail)
        have r0 := hr1.cell 0
        have r1 := hr1.cell 1
        have rf0 := hr1.frozen 0
        have rf1 := hr1.frozen 1
        clear g1
        have hown2 := (hown1.far (p := ⟨wr.heap.size, 0, none⟩) hne (.int .i64 (lo : Int))).far (p := ⟨wr.heap.size, 1, none⟩) hne (.int .i64 (n : Int))
        have hg2 : Grew w ((w1.setCell ⟨wr.heap.size, 0, none⟩ (.int .i64 (lo : Int))).setCell ⟨wr.heap.size, 1, none⟩ (.int .i64 (n : Int))) := by (repeat' first | (with_reducible exact Grew.refl _) | (with_reducible assumption) | (with_reducible refine Grew.alloc ?_ _) | (with_reducible refine Grew.drew ?_) | (with_reducible refine Grew.drewN ?_ _) | (with_reducible refine Grew.setRow ?_ (by first | (simp; done) | (simp; omega) | omega) _) | (with_reducible refine Grew.setCell ?_ (by first | (simp; done) | (simp; omega) | omega) _) | ((with_reducible apply Grew.trans); rotate_left; (with_reducible assumption)) | ((with_reducible apply Grew.turn); rotate_left; (with_reducible assumption); (focus (intro i hi; first | omega | (simp at hi; omega)))) | fail)
        by_cases hn : n = 0
        · have hb0 : ((n : Int) == 0) = true := beq_iff_eq.2 (by omega)
          have HF := Lib.hid (HN.out.trans (by rw [stepJ, if_pos (by simp [hn])]))
          clear hn
          go_wp2_with fail
          go_roundg (l.length - (k + 1))
          case measure => rw [HGK.out]; omega
          case rel => exact ⟨k + 1, by omega, by omega, by go_num, by rw [HF.out]; exact hown2, hg2⟩
        · have hb0 : ((n : Int) == 0) = false := beq_eq_false_iff_ne.2 (by omega)
          have HF := Lib.hid (HN.out.trans (show stepJ [] (lo, n) = [] ++ [(lo, n)] by rw [stepJ, if_neg (by simpa using hn), if_neg (fun h => h.1 rfl)]))
          clear hn
          go_wp2_with fail
          go_quiet (fail)
          go_wp2_with (at_builtin; refine wpList_push rfl _ _ 22 rfl w.heap.size 25 2 16 _ Try.underlying22 info_run rfl (by decide) (((w1.setCell ⟨wr.heap.size, 0, none⟩ (.int .i64 (lo : Int))).setCell ⟨wr.heap.size, 1, none⟩ (.int .i64 (n : Int))).drewN nq) _ (([] : List (Nat × Nat)).map rowN) (rowN (lo, n)) (by rfl) rfl rfl (hown2.drewN nq) (by first | rfl | (simp; done)) rfl rfl (by simp) (by simp) hg2.size ?_; intro v' w3 hown3 hgr hbk hsz)
          go_roundg (l.length - (k + 1))
          case measure => rw [HGK.out]; omega
          case rel => exact ⟨k + 1, by omega, by omega, by go_num, by rw [HF.out, List.map_append]; exact hown3, hgr _ (hg2.drewN nq) (Nat.le_refl _)⟩
      · have hapos : 0 < acc.length := List.length_pos_iff.2 hacc
        rcases hown.form with ⟨_, h0⟩ | ⟨gv, cap, hv, hbg, hgv, _, _⟩
        · exfalso; have := congrArg List.length h0; simp at this; exact hacc this
        · injection hv with hv1 hv2 hv3
          subst hv1
          clear hv2 hv3
          have hlast : acc[acc.length - 1]? = some (acc.getD (acc.length - 1) (0, 0)) := by
            rw [getD_at _ _ (by omega)]; exact List.getElem?_eq_getElem (by omega)
          have hin := HJ.out _ (List.mem_of_getElem? hlast)
          have hst : n ≠ 0 → stepJ acc (lo, n) = if (acc.getD (acc.length - 1) (0, 0)).1 + (acc.getD (acc.length - 1) (0, 0)).2 = lo then acc.set (acc.length - 1) ((acc.getD (acc.length - 1) (0, 0)).1, (acc.getD (acc.length - 1) (0, 0)).2 + n) else acc ++ [(lo, n)] := by
            intro hn
            rw [stepJ, if_neg (by simpa using hn)]
            by_cases h : (acc.getD (acc.length - 1) (0, 0)).1 + (acc.getD (acc.length - 1) (0, 0)).2 = lo
            · rw [if_pos ⟨hacc, h⟩, if_pos h]
            · rw [if_neg (fun h' => h h'.2), if_neg h]
          generalize acc.getD (acc.length - 1) (0, 0) = ld at *
          obtain ⟨la, lb⟩ := ld
          simp only at hin hst
          have hrow : (acc.map rowN)[acc.length - 1]? = some (rowN (la, lb)) := by rw [List.getElem?_map, hlast]; rfl
          generalize hq : acc.length = q at *
          obtain ⟨p, rfl⟩ : ∃ p, q = p + 1 := ⟨q - 1, by omega⟩
          rw [Nat.add_sub_cancel] at hrow hst hlast
          have HROW := Lib.hid hrow
          have HST := Lib.hid hst
          have HQ := Lib.hid hq
          clear hq hlast hrow hst hacc
          have hne : (Value.slice (some ⟨gv, 0, none⟩) (p + 1) cv).ownBlock ≠ some wr.heap.size := fun h => by have := (hown.own_ge h).2; omega
          go_wp2_with fail
          refine (HC _).out.mono ?_
          rintro e w1 ⟨rfl, g1⟩
          have hz1 : wr.heap.size < w1.heap.size := by have := g1.size; simp at this; omega
          have hr1 : Blk w1 wr.heap.size 25 #[.int .i64 f, .int .i64 c] := (Blk.new wr _ _ rfl).grew g1
          have hown1 := (hown.alloc (.cells #[.int .i64 f, .int .i64 c] 25)).grew g1
          have hg1 : Grew w w1 := by (repeat' first | (with_reducible exact Grew.refl _) | (with_reducible assumption) | (with_reducible refine Grew.alloc ?_ _) | (with_reducible refine Grew.drew ?_) | (with_reducible refine Grew.drewN ?_ _) | (with_reducible refine Grew.setRow ?_ (by first | (simp; done) | (simp; omega) | omega) _) | (with_reducible refine Grew.setCell ?_ (by first | (simp; done) | (simp; omega) | omega) _) | ((with_reducible apply Grew.trans); rotate_left; (with_reducible assumption)) | ((with_reducible apply Grew.turn); rotate_left; (with_reducible assumption); (focus (intro i hi; first | omega | (simp at hi; omega)))) | fail)
          have r0 := hr1.cell 0
          have r1 := hr1.cell 1
          have rf0 := hr1.frozen 0
          have rf1 := hr1.frozen 1
          clear g1
          have hown2 := (hown1.far (p := ⟨wr.heap.size, 0, none⟩) hne (.int .i64 (lo : Int))).far (p := ⟨wr.heap.size, 1, none⟩) hne (.int .i64 (n : Int))
          have hg2 : Grew w ((w1.setCell ⟨wr.heap.size, 0, none⟩ (.int .i64 (lo : Int))).setCell ⟨wr.heap.size, 1, none⟩ (.int .i64 (n : Int))) := by (repeat' first | (with_reducible exact Grew.refl _) | (with_reducible assumption) | (with_reducible refine Grew.alloc ?_ _) | (with_reducible refine Grew.drew ?_) | (with_reducible refine Grew.drewN ?_ _) | (with_reducible refine Grew.setRow ?_ (by first | (simp; done) | (simp; omega) | omega) _) | (with_reducible refine Grew.setCell ?_ (by first | (simp; done) | (simp; omega) | omega) _) | ((with_reducible apply Grew.trans); rotate_left; (with_reducible assumption)) | ((with_reducible apply Grew.turn); rotate_left; (with_reducible assumption); (focus (intro i hi; first | omega | (simp at hi; omega)))) | fail)
          by_cases hn : n = 0
          · have hb0 : ((n : Int) == 0) = true := beq_iff_eq.2 (by omega)
            have HF := Lib.hid (HN.out.trans (by rw [stepJ, if_pos (by simp [hn])]))
            clear hn
            go_wp2_with fail
            go_roundg (l.length - (k + 1))
            case measure => rw [HGK.out]; omega
            case rel => exact ⟨k + 1, by omega, by omega, by go_num, by rw [HF.out]; exact hown2, hg2⟩
          · have hb0 : ((n : Int) == 0) = false := beq_eq_false_iff_ne.2 (by omega)
            have hst := HST.out hn
            have d0 := hown2.cell (i := 0) HROW.out rfl
            have d1 := hown2.cell (i := 1) HROW.out rfl
            have df := hown2.frozen (p * 2 + 1)
            rw [Nat.add_zero] at d0
            have hset := hown2.set_ (i := 1) (o := p * 2 + 1) HROW.out (by omega) rfl (.int .i64 ((lb + n : Nat) : Int))
            rw [rows_set'] at hset
            have HS := Lib.hid hset
            clear hset hn
            have hdq : decide ((0 : Int) ≤ (p : Int)) = true := by simp
            have hgne : ¬ gv = wr.heap.size := by omega
            have hgne' : ¬ wr.heap.size = gv := by omega
            by_cases hj : la + lb = lo
            · have HF := Lib.hid (HN.out.trans (hst.trans (if_pos hj)))
              have hbj : (((la : Int) + (lb : Int)) == (lo : Int)) = true := beq_iff_eq.2 (by omega)
              clear hst hj
              go_wp2_with fail
              go_quiet (fail)
              go_wp2_with fail
              go_region
              go_wp2_with fail
              go_roundg (l.length - (k + 1))
              case measure => rw [HGK.out]; omega
              case rel => exact ⟨k + 1, by omega, by omega, by go_num, by rw [HF.out]; exact HS.out, by (repeat' first | (with_reducible exact Grew.refl _) | (with_reducible assumption) | (with_reducible refine Grew.alloc ?_ _) | (with_reducible refine Grew.drew ?_) | (with_reducible refine Grew.drewN ?_ _) | (with_reducible refine Grew.setRow ?_ (by first | (simp; done) | (simp; omega) | omega) _) | (with_reducible refine Grew.setCell ?_ (by first | (simp; done) | (simp; omega) | omega) _) | ((with_reducible apply Grew.trans); rotate_left; (with_reducible assumption)) | ((with_reducible apply Grew.turn); rotate_left; (with_reducible assumption); (focus (intro i hi; first | omega | (simp at hi; omega)))) | fail)⟩
            · have HF := Lib.hid (HN.out.trans (hst.trans (if_neg hj)))
              have hbj : (((la : Int) + (lb : Int)) == (lo : Int)) = false := beq_eq_false_iff_ne.2 (by omega)
              clear hst hj
              go_wp2_with fail
              go_quiet (fail)
              go_wp2_with (at_builtin; refine wpList_push rfl _ _ 22 rfl w.heap.size 25 2 16 _ Try.underlying22 info_run rfl (by decide) (((w1.setCell ⟨wr.heap.size, 0, none⟩ (.int .i64 (lo : Int))).setCell ⟨wr.heap.size, 1, none⟩ (.int .i64 (n : Int))).drewN nq) _ (acc.map rowN) (rowN (lo, n)) (by rfl) rfl rfl (hown2.drewN nq) (by first | rfl | (simp; done)) rfl rfl (by rw [List.length_map, HQ.out]; omega) (by rw [List.length_map, HQ.out]; omega) hg2.size ?_; intro v' w3 hown3 hgr hbk hsz)
              go_roundg (l.length - (k + 1))
              case measure => rw [HGK.out]; omega
              case rel => exact ⟨k + 1, by omega, by omega, by go_num, by rw [HF.out, List.map_append]; exact hown3, hgr _ (hg2.drewN nq) (Nat.le_refl _)⟩
    · obtain rfl : k = l.length := by omega
      rw [List.take_length] at hown
      go_wp2_with fail
      go_ret
      exact ⟨_, rfl, hown, hg⟩
end Go.Proofs.Ytenbcjlikoajdaa
