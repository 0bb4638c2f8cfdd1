/- Join. An append at a step of a region that draws its order. awake: the example of the chapter holds. Cut: the two parts of a list. Plain laws of chapter 5: the sequence of a list decides its joined form, its normal form and its indices. The reference's Sequence, Disjoint, At and Index. 'append(v, x...)': a whole list appended to a slice of the call's own. Chapter 5's contracts once more, each list under a name of its own. Chapter 7: numbers of tracks; the table's tracks, slots. Chapter 7: labels in memory; Few, Equal. Regions that draw their order, whose last store turns a cell that the region has loaded: loads are taken first under a fact that need not hold behind the operations A. Regions that draw their order, once more: behind every operation that is not in A the fact S still holds if it held ahead of it. Loads are taken first under S; what needs no fact may be taken first at any time. -/
import Derived.Deep.AppendLies
import Derived.Deep.RegionHeld3
import Derived.Maps.AppendAt
import Derived.OwnWalk
import Derived.Deep.DeepCutAuto
import Derived.Deep.CutBlock
import Derived.OrdersHeld
import Derived.Deep.DrawnRows
import Derived.Test.YtnlaogneceanoaaCsA
import Derived.Test.YtnlaogneceanoaaCsB
namespace Go.Proofs.Ytnlaogneceanoaa
set_option linter.unusedVariables false
set_option linter.unusedSimpArgs false
set_option linter.unusedSectionVars false
open Go.RowKit
def stepJ (acc : List (Nat × Nat)) (r : Nat × Nat) : List (Nat × Nat) :=
  if r.2 = 0 then acc
  else if acc ≠ [] ∧ (acc.getD (acc.length - 1) (0, 0)).1 + (acc.getD (acc.length - 1) (0, 0)).2 = r.1 then acc.set (acc.length - 1) ((acc.getD (acc.length - 1) (0, 0)).1, (acc.getD (acc.length - 1) (0, 0)).2 + r.2)
  else acc ++ [r]
def joinS (l : List (Int × Int)) : List (Nat × Nat) := l.foldl (fun acc x => stepJ acc (clipS x)) []
theorem joinS_snoc (l : List (Int × Int)) (k : Nat) (h : k < l.length) : joinS (l.take (k + 1)) = stepJ (joinS (l.take k)) (clipS l[k]) := by
  unfold joinS
  rw [List.take_succ_eq_append_getElem h, List.foldl_append]
  rfl
theorem stepJ_len (acc : List (Nat × Nat)) (r : Nat × Nat) : (stepJ acc r).length ≤ acc.length + 1 := by
  unfold stepJ; repeat' split
  · omega
  · rw [List.length_set]; omega
  · simp
theorem stepJ_bd (acc : List (Nat × Nat)) (r : Nat × Nat) (h : ∀ x ∈ acc, x.1 + x.2 ≤ 128) (hr : r.1 + r.2 ≤ 128) : ∀ x ∈ stepJ acc r, x.1 + x.2 ≤ 128 := by
  intro x hx
  unfold stepJ at hx
  split at hx
  · exact h x hx
  · split at hx
    · rename_i hj
      rcases List.mem_or_eq_of_mem_set hx with hx | rfl
      · exact h x hx
      · simp only []; omega
    · rcases List.mem_append.1 hx with hx | hx
      · exact h x hx
      · rw [List.mem_singleton.1 hx]; exact hr
theorem joinS_inv (l : List (Int × Int)) : ∀ acc : List (Nat × Nat), (∀ x ∈ acc, x.1 + x.2 ≤ 128) → (∀ x ∈ l.foldl (fun acc x => stepJ acc (clipS x)) acc, x.1 + x.2 ≤ 128) ∧ (l.foldl (fun acc x => stepJ acc (clipS x)) acc).length ≤ acc.length + l.length := by
  induction l with
  | nil => intro acc h; exact ⟨h, by simp⟩
  | cons r l ih =>
    intro acc h
    have h1 := ih (stepJ acc (clipS r)) (stepJ_bd acc _ h (clipS_le r))
    have h2 := stepJ_len acc (clipS r)
    refine ⟨h1.1, ?_⟩
    have := h1.2
    simp only [List.foldl_cons, List.length_cons]
    omega
theorem joinS_bd (l : List (Int × Int)) : ∀ x ∈ joinS l, x.1 + x.2 ≤ 128 := (joinS_inv l [] (by simp)).1
theorem joinS_len (l : List (Int × Int)) : (joinS l).length ≤ l.length := by have := (joinS_inv l [] (by simp)).2; rw [List.length_nil, Nat.zero_add] at this; exact this
theorem rows_set' (l : List (Nat × Nat)) (j : Nat) (a b b' : Nat) : (l.map rowN).set j ((rowN (a, b)).set 1 (.int .i64 (b' : Int))) = (l.set j (a, b')).map rowN := by
  rw [List.map_set]; rfl
set_option maxRecDepth 100000 in
set_option maxHeartbeats 8000000 in
theorem join_any (A : Option Addr) (c : Nat) (l : List (Int × Int)) (w : World) (B : Nat) (hB : B ≤ w.heap.size) (hl : l.length ≤ 1000000) (hr : RunsAt w B A l) :
    Calls Try.prog 78 #[.slice A l.length c] w fun e w' => ∃ v, e = .returned v ∧ OwnL w' w.heap.size 58 2 v ((joinS l).map rowN) ∧ Grew w w' := by
  have HR := Lib.hid hr
  clear hr
  go_enter Try.func78, Try.ntmps78
  go_wp2_with fail
  go_loopg [3, 9] l.length (fun gk v i wr => ∃ k : Nat, k ≤ l.length ∧ gk = l.length - k ∧ i = .int .i64 k ∧ OwnL wr w.heap.size 58 2 v ((joinS (l.take k)).map rowN) ∧ Grew w wr)
  case atStart => exact ⟨0, by omega, by omega, rfl, OwnL.nil _ _ _ _, by (repeat' first | (with_reducible exact Grew.refl _) | (with_reducible assumption) | (with_reducible refine Grew.alloc ?_ _) | (with_reducible refine Grew.drew ?_) | (with_reducible refine Grew.drewN ?_ _) | (with_reducible refine Grew.setRow ?_ (by first | (simp; done) | (simp; omega) | omega) _) | (with_reducible refine Grew.setCell ?_ (by first | (simp; done) | (simp; omega) | omega) _) | ((with_reducible apply Grew.trans); rotate_left; (with_reducible assumption)) | ((with_reducible apply Grew.turn); rotate_left; (with_reducible assumption); (focus (intro i hi; first | omega | (simp at hi; omega)))) | fail)⟩
  case round =>
    obtain ⟨k, hk, hgk, rfl, hown, hg⟩ := hrel
    have HGK := Lib.hid hgk
    clear hgk
    by_cases hlt : k < l.length
    · obtain ⟨b, off, f, c, rfl, hb, hlk, ⟨f0, f1, c0, c1⟩, x0, x1⟩ := (HR.out.keep hB hg).at_ hlt
      simp only at f0 f1 c0 c1
      have hbs : b < wr.heap.size := by have := hg.size; omega
      have hws := hg.size
      have hle := clipS_le (f, c)
      have hsn := joinS_snoc l k hlt
      rw [hlk] at hsn
      have HN := Lib.hid hsn
      have hjl := joinS_len (l.take k)
      have hjl2 : (l.take k).length ≤ 1000000 := Nat.le_trans (List.length_take_le _ _) (by omega)
      have HJ := Lib.hid (joinS_bd (l.take k))
      clear hlk hsn
      have HC := fun W => Lib.hid (clip_any f c W f0 f1 c0 c1)
      generalize clipS (f, c) = r at *
      obtain ⟨lo, n⟩ := r
      generalize joinS (l.take k) = acc at *
      simp only at hle
      obtain ⟨Av, cv, hv, hcv1, hcv2, -⟩ := hown.listAt
      rw [List.length_map] at hv hcv1
      subst hv
      have hal : acc.length ≤ 1000000 := by omega
      by_cases hacc : acc = []
      · subst hacc
        have hne : (Value.slice Av ([] : List (Nat × Nat)).length cv).ownBlock ≠ some wr.heap.size := fun h => by have := (hown.own_ge h).2; omega
        go_wp2_with fail
        refine (HC _).out.mono ?_
        rintro e w1 ⟨rfl, g1⟩
        have hz1 : wr.heap.size < w1.heap.size := by have := g1.size; simp at this; omega
        have hr1 : Blk w1 wr.heap.size 58 #[.int .i64 f, .int .i64 c] := (Blk.new wr _ _ rfl).grew g1
        have hown1 := (hown.alloc (.cells #[.int .i64 f, .int .i64 c] 58)).grew g1
        have hg1 : Grew w w1 := by (repeat' first | (with_reducible exact Grew.refl _) | (with_reducible assumption) | (with_reducible refine Grew.alloc ?_ _) | (with_reducible refine Grew.drew ?_) | (with_reducible refine Grew.drewN ?_ _) | (with_reducible refine Grew.setRow ?_ (by first | (simp; done) | (simp; omega) | omega) _) | (with_reducible refine Grew.setCell ?_ (by first | (simp; done) | (simp; omega) | omega) _) | ((with_reducible apply Grew.trans); rotate_left; (with_reducible assumption)) | ((with_reducible apply Grew.turn); rotate_left; (with_reducible assumption); (focus (intro i hi; first | omega | (simp at hi; omega)))) | fail)
        have r0 := hr1.cell 0
        have r1 := hr1.cell 1
        have rf0 := hr1.frozen 0
        have rf1 := hr1.frozen 1
        clear g1
        have hown2 := (hown1.far (p := ⟨wr.heap.size, 0, none⟩) hne (.int .i64 (lo : Int))).far (p := ⟨wr.heap.size, 1, none⟩) hne (.int .i64 (n : Int))
        have hg2 : Grew w ((w1.setCell ⟨wr.heap.size, 0, none⟩ (.int .i64 (lo : Int))).setCell ⟨wr.heap.size, 1, none⟩ (.int .i64 (n : Int))) := by (repeat' first | (with_reducible exact Grew.refl _) | (with_reducible assumption) | (with_reducible refine Grew.alloc ?_ _) | (with_reducible refine Grew.drew ?_) | (with_reducible refine Grew.drewN ?_ _) | (with_reducible refine Grew.setRow ?_ (by first | (simp; done) | (simp; omega) | omega) _) | (with_reducible refine Grew.setCell ?_ (by first | (simp; done) | (simp; omega) | omega) _) | ((with_reducible apply Grew.trans); rotate_left; (with_reducible assumption)) | ((with_reducible apply Grew.turn); rotate_left; (with_reducible assumption); (focus (intro i hi; first | omega | (simp at hi; omega)))) | fail)
        by_cases hn : n = 0
        · have hb0 : ((n : Int) == 0) = true := beq_iff_eq.2 (by omega)
          have HF := Lib.hid (HN.out.trans (by rw [stepJ, if_pos (by simp [hn])]))
          clear hn
          go_wp2_with fail
          go_roundg (l.length - (k + 1))
          case measure => rw [HGK.out]; omega
          case rel => exact ⟨k + 1, by omega, by omega, by go_num, by rw [HF.out]; exact hown2, hg2⟩
        · have hb0 : ((n : Int) == 0) = false := beq_eq_false_iff_ne.2 (by omega)
          have HF := Lib.hid (HN.out.trans (show stepJ [] (lo, n) = [] ++ [(lo, n)] by rw [stepJ, if_neg (by simpa using hn), if_neg (fun h => h.1 rfl)]))
          clear hn
          go_wp2_with fail
          go_quiet (fail)
          go_wp2_with (at_builtin; refine wpList_push rfl _ _ 22 rfl w.heap.size 58 2 16 _ Try.underlying22 info_run rfl (by decide) (((w1.setCell ⟨wr.heap.size, 0, none⟩ (.int .i64 (lo : Int))).setCell ⟨wr.heap.size, 1, none⟩ (.int .i64 (n : Int))).drewN nq) _ (([] : List (Nat × Nat)).map rowN) (rowN (lo, n)) (by rfl) rfl rfl (hown2.drewN nq) (by first | rfl | (simp; done)) rfl rfl (by simp) (by simp) hg2.size ?_; intro v' w3 hown3 hgr hbk hsz)
          go_roundg (l.length - (k + 1))
          case measure => rw [HGK.out]; omega
          case rel => exact ⟨k + 1, by omega, by omega, by go_num, by rw [HF.out, List.map_append]; exact hown3, hgr _ (hg2.drewN nq) (Nat.le_refl _)⟩
      · have hapos : 0 < acc.length := List.length_pos_iff.2 hacc
        rcases hown.form with ⟨_, h0⟩ | ⟨gv, cap, hv, hbg, hgv, _, _⟩
        · exfalso; have := congrArg List.length h0; simp at this; exact hacc this
        · injection hv with hv1 hv2 hv3
          subst hv1
          clear hv2 hv3
          have hlast : acc[acc.length - 1]? = some (acc.getD (acc.length - 1) (0, 0)) := by
            rw [getD_at _ _ (by omega)]; exact List.getElem?_eq_getElem (by omega)
          have hin := HJ.out _ (List.mem_of_getElem? hlast)
          have hst : n ≠ 0 → stepJ acc (lo, n) = if (acc.getD (acc.length - 1) (0, 0)).1 + (acc.getD (acc.length - 1) (0, 0)).2 = lo then acc.set (acc.length - 1) ((acc.getD (acc.length - 1) (0, 0)).1, (acc.getD (acc.length - 1) (0, 0)).2 + n) else acc ++ [(lo, n)] := by
            intro hn
            rw [stepJ, if_neg (by simpa using hn)]
            by_cases h : (acc.getD (acc.length - 1) (0, 0)).1 + (acc.getD (acc.length - 1) (0, 0)).2 = lo
            · rw [if_pos ⟨hacc, h⟩, if_pos h]
            · rw [if_neg (fun h' => h h'.2), if_neg h]
          generalize acc.getD (acc.length - 1) (0, 0) = ld at *
          obtain ⟨la, lb⟩ := ld
          simp only at hin hst
          have hrow : (acc.map rowN)[acc.length - 1]? = some (rowN (la, lb)) := by rw [List.getElem?_map, hlast]; rfl
          generalize hq : acc.length = q at *
          obtain ⟨p, rfl⟩ : ∃ p, q = p + 1 := ⟨q - 1, by omega⟩
          rw [Nat.add_sub_cancel] at hrow hst hlast
          have HROW := Lib.hid hrow
          have HST := Lib.hid hst
          have HQ := Lib.hid hq
          clear hq hlast hrow hst hacc
          have hne : (Value.slice (some ⟨gv, 0, none⟩) (p + 1) cv).ownBlock ≠ some wr.heap.size := fun h => by have := (hown.own_ge h).2; omega
          go_wp2_with fail
          refine (HC _).out.mono ?_
          rintro e w1 ⟨rfl, g1⟩
          have hz1 : wr.heap.size < w1.heap.size := by have := g1.size; simp at this; omega
          have hr1 : Blk w1 wr.heap.size 58 #[.int .i64 f, .int .i64 c] := (Blk.new wr _ _ rfl).grew g1
          have hown1 := (hown.alloc (.cells #[.int .i64 f, .int .i64 c] 58)).grew g1
          have hg1 : Grew w w1 := by (repeat' first | (with_reducible exact Grew.refl _) | (with_reducible assumption) | (with_reducible refine Grew.alloc ?_ _) | (with_reducible refine Grew.drew ?_) | (with_reducible refine Grew.drewN ?_ _) | (with_reducible refine Grew.setRow ?_ (by first | (simp; done) | (simp; omega) | omega) _) | (with_reducible refine Grew.setCell ?_ (by first | (simp; done) | (simp; omega) | omega) _) | ((with_reducible apply Grew.trans); rotate_left; (with_reducible assumption)) | ((with_reducible apply Grew.turn); rotate_left; (with_reducible assumption); (focus (intro i hi; first | omega | (simp at hi; omega)))) | fail)
          have r0 := hr1.cell 0
          have r1 := hr1.cell 1
          have rf0 := hr1.frozen 0
          have rf1 := hr1.frozen 1
          clear g1
          have hown2 := (hown1.far (p := ⟨wr.heap.size, 0, none⟩) hne (.int .i64 (lo : Int))).far (p := ⟨wr.heap.size, 1, none⟩) hne (.int .i64 (n : Int))
          have hg2 : Grew w ((w1.setCell ⟨wr.heap.size, 0, none⟩ (.int .i64 (lo : Int))).setCell ⟨wr.heap.size, 1, none⟩ (.int .i64 (n : Int))) := by (repeat' first | (with_reducible exact Grew.refl _) | (with_reducible assumption) | (with_reducible refine Grew.alloc ?_ _) | (with_reducible refine Grew.drew ?_) | (with_reducible refine Grew.drewN ?_ _) | (with_reducible refine Grew.setRow ?_ (by first | (simp; done) | (simp; omega) | omega) _) | (with_reducible refine Grew.setCell ?_ (by first | (simp; done) | (simp; omega) | omega) _) | ((with_reducible apply Grew.trans); rotate_left; (with_reducible assumption)) | ((with_reducible apply Grew.turn); rotate_left; (with_reducible assumption); (focus (intro i hi; first | omega | (simp at hi; omega)))) | fail)
          by_cases hn : n = 0
          · have hb0 : ((n : Int) == 0) = true := beq_iff_eq.2 (by omega)
            have HF := Lib.hid (HN.out.trans (by rw [stepJ, if_pos (by simp [hn])]))
            clear hn
            go_wp2_with fail
            go_roundg (l.length - (k + 1))
            case measure => rw [HGK.out]; omega
            case rel => exact ⟨k + 1, by omega, by omega, by go_num, by rw [HF.out]; exact hown2, hg2⟩
          · have hb0 : ((n : Int) == 0) = false := beq_eq_false_iff_ne.2 (by omega)
            have hst := HST.out hn
            have d0 := hown2.cell (i := 0) HROW.out rfl
            have d1 := hown2.cell (i := 1) HROW.out rfl
            have df := hown2.frozen (p * 2 + 1)
            rw [Nat.add_zero] at d0
            have hset := hown2.set_ (i := 1) (o := p * 2 + 1) HROW.out (by omega) rfl (.int .i64 ((lb + n : Nat) : Int))
            rw [rows_set'] at hset
            have HS := Lib.hid hset
            clear hset hn
            have hdq : decide ((0 : Int) ≤ (p : Int)) = true := by simp
            have hgne : ¬ gv = wr.heap.size := by omega
            have hgne' : ¬ wr.heap.size = gv := by omega
            by_cases hj : la + lb = lo
            · have HF := Lib.hid (HN.out.trans (hst.trans (if_pos hj)))
              have hbj : (((la : Int) + (lb : Int)) == (lo : Int)) = true := beq_iff_eq.2 (by omega)
              clear hst hj
              go_wp2_with fail
              go_quiet (fail)
              go_wp2_with fail
              go_region
              go_wp2_with fail
              go_roundg (l.length - (k + 1))
              case measure => rw [HGK.out]; omega
              case rel => exact ⟨k + 1, by omega, by omega, by go_num, by rw [HF.out]; exact HS.out, by (repeat' first | (with_reducible exact Grew.refl _) | (with_reducible assumption) | (with_reducible refine Grew.alloc ?_ _) | (with_reducible refine Grew.drew ?_) | (with_reducible refine Grew.drewN ?_ _) | (with_reducible refine Grew.setRow ?_ (by first | (simp; done) | (simp; omega) | omega) _) | (with_reducible refine Grew.setCell ?_ (by first | (simp; done) | (simp; omega) | omega) _) | ((with_reducible apply Grew.trans); rotate_left; (with_reducible assumption)) | ((with_reducible apply Grew.turn); rotate_left; (with_reducible assumption); (focus (intro i hi; first | omega | (simp at hi; omega)))) | fail)⟩
            · have HF := Lib.hid (HN.out.trans (hst.trans (if_neg hj)))
              have hbj : (((la : Int) + (lb : Int)) == (lo : Int)) = false := beq_eq_false_iff_ne.2 (by omega)
              clear hst hj
              go_wp2_with fail
              go_quiet (fail)
              go_wp2_with (at_builtin; refine wpList_push rfl _ _ 22 rfl w.heap.size 58 2 16 _ Try.underlying22 info_run rfl (by decide) (((w1.setCell ⟨wr.heap.size, 0, none⟩ (.int .i64 (lo : Int))).setCell ⟨wr.heap.size, 1, none⟩ (.int .i64 (n : Int))).drewN nq) _ (acc.map rowN) (rowN (lo, n)) (by rfl) rfl rfl (hown2.drewN nq) (by first | rfl | (simp; done)) rfl rfl (by rw [List.length_map, HQ.out]; omega) (by rw [List.length_map, HQ.out]; omega) hg2.size ?_; intro v' w3 hown3 hgr hbk hsz)
              go_roundg (l.length - (k + 1))
              case measure => rw [HGK.out]; omega
              case rel => exact ⟨k + 1, by omega, by omega, by go_num, by rw [HF.out, List.map_append]; exact hown3, hgr _ (hg2.drewN nq) (Nat.le_refl _)⟩
    · obtain rfl : k = l.length := by omega
      rw [List.take_length] at hown
      go_wp2_with fail
      go_ret
      exact ⟨_, rfl, hown, hg⟩
end Go.Proofs.Ytnlaogneceanoaa
namespace Go.Proofs.Ytnlaogneceanoaa
set_option linter.unusedVariables false
set_option linter.unusedSimpArgs false
set_option linter.unusedSectionVars false
open Go.RowKit
section
variable {P : Program}
end
theorem OwnL.own {w w' : World} {base e sz : Nat} {v : Value} {rows : List (List Value)} {row : Option Nat} (h : OwnL w base e sz v rows) (hg : w.grownBy w' row) (hne : ∀ g, v.ownBlock = some g → row ≠ some g) : OwnL w' base e sz v rows := by
  refine ⟨h.1, h.2.1, ?_⟩
  rcases h.2.2 with h0 | ⟨g, cap, cur, hv, hb, hh, hr⟩
  · exact .inl h0
  · exact .inr ⟨g, cap, cur, hv, hb, Blk.own (t := e) (cs := cur) hh hg (hne g (by rw [hv]; rfl)), hr⟩
theorem OwnL.row_ge {w : World} {base e sz : Nat} {v : Value} {rows : List (List Value)} (h : OwnL w base e sz v rows) : ∀ k, v.ownBlock = some k → base ≤ k := fun _ hk => (h.own_ge hk).1
end Go.Proofs.Ytnlaogneceanoaa
namespace Go.Proofs.Ytnlaogneceanoaa
set_option linter.unusedVariables false
set_option linter.unusedSimpArgs false
set_option linter.unusedSectionVars false
open Go.RowKit
instance (r : Int × Int) : Decidable (okRun r) := by unfold okRun; infer_instance
theorem at_val (A : Option Addr) (c n : Nat) (l : List (Int × Int)) (w : World) (hn : n = l.length) (hl : l.length ≤ 1000000) (hr : RunsAt w w.heap.size A l) (t : Int) (t0 : -9223372036854775808 ≤ t) (t1 : t ≤ 9223372036854775807) (a : Int) (b : Bool)
    (h : (if t < 0 then (0, false) else atS l t) = (a, b)) : Calls Try.prog 31 #[.slice A n c, .int .i64 t] w fun e w' => e = .returned (.tuple #[.int .i64 a, .bool b]) ∧ Grew w w' := by
  subst hn
  have := at_any A c l w w.heap.size (Nat.le_refl _) hl hr t t0 t1
  rw [h] at this
  exact this
theorem RunsAt.hold {w w' : World} {A : Option Addr} {l : List (Int × Int)} (h : RunsAt w w.heap.size A l) (hg : Grew w w') : RunsAt w' w'.heap.size A l :=
  ⟨h.1, (h.2.keep (Nat.le_refl _) hg).mono hg.size⟩
theorem join_val (A : Option Addr) (c n : Nat) (l : List (Int × Int)) (w : World) (hn : n = l.length) (hl : l.length ≤ 1000000) (hr : RunsAt w w.heap.size A l) (k : List (Int × Int)) (hk : ints (joinS l) = k) :
    Calls Try.prog 78 #[.slice A n c] w fun e w' => ∃ A c, e = .returned (.slice A k.length c) ∧ RunsAt w' w'.heap.size A k ∧ Grew w w' := by
  subst hn
  subst hk
  refine (join_any A c l w w.heap.size (Nat.le_refl _) hl hr).mono ?_
  rintro e w1 ⟨v, rfl, hown, g1⟩
  obtain ⟨A', c', hv, hr'⟩ := own_runs hown (fun r hr => Nat.le_trans (joinS_bd _ r hr) (by omega))
  exact ⟨A', c', by rw [hv], hr', g1⟩
theorem same_val (A1 A2 : Option Addr) (c1 c2 n1 n2 : Nat) (l1 l2 : List (Int × Int)) (w : World) (hn1 : n1 = l1.length) (hn2 : n2 = l2.length) (hl1 : l1.length ≤ 1000000) (hl2 : l2.length ≤ 1000000) (hr1 : RunsAt w w.heap.size A1 l1) (hr2 : RunsAt w w.heap.size A2 l2) (b : Bool) (hb : decide (l1 = l2) = b) :
    Calls Try.prog 17 #[.slice A1 n1 c1, .slice A2 n2 c2] w fun e w' => e = .returned (.bool b) ∧ Grew w w' := by
  subst hn1; subst hn2; subst hb
  exact same_any A1 A2 c1 c2 l1 l2 w w.heap.size (Nat.le_refl _) hl1 hl2 hr1 hr2
end Go.Proofs.Ytnlaogneceanoaa
namespace Go.Proofs.Ytnlaogneceanoaa
set_option linter.unusedVariables false
set_option linter.unusedSimpArgs false
set_option linter.unusedSectionVars false
open Go.RowKit
theorem sizeS_cons (r : Int × Int) (l : List (Int × Int)) : sizeS (r :: l) = (clipS r).2 + sizeS l := rfl
end Go.Proofs.Ytnlaogneceanoaa
namespace Go.Proofs.Ytnlaogneceanoaa
set_option linter.unusedVariables false
set_option linter.unusedSimpArgs false
set_option linter.unusedSectionVars false
open Go.RowKit
theorem last_cases (acc : List (Nat × Nat)) : acc = [] ∨ ∃ i x, acc = i ++ [x] := by
  rcases List.eq_nil_or_concat acc with h | ⟨i, x, h⟩
  · exact .inl h
  · exact .inr ⟨i, x, by rw [h, List.concat_eq_append]⟩
theorem last_getD (i : List (Nat × Nat)) (x : Nat × Nat) : (i ++ [x]).getD ((i ++ [x]).length - 1) (0, 0) = x := by simp [List.getD]
theorem last_set (i : List (Nat × Nat)) (x y : Nat × Nat) : (i ++ [x]).set ((i ++ [x]).length - 1) y = i ++ [y] := by
  rw [List.set_append_right _ _ (by simp)]
  simp
def stepT (acc : List (Nat × Nat)) (t : Nat) : List (Nat × Nat) := stepJ acc (t, 1)
theorem stepT_nil (t : Nat) : stepT [] t = [(t, 1)] := by
  unfold stepT stepJ
  rw [if_neg (by simp), if_neg (fun h => h.1 rfl)]
  rfl
theorem stepJ_snoc (i : List (Nat × Nat)) (x r : Nat × Nat) (hr : r.2 ≠ 0) : stepJ (i ++ [x]) r = if x.1 + x.2 = r.1 then i ++ [(x.1, x.2 + r.2)] else i ++ [x] ++ [r] := by
  unfold stepJ
  rw [if_neg hr, last_getD, last_set]
  by_cases h : x.1 + x.2 = r.1
  · rw [if_pos ⟨by simp, h⟩, if_pos h]
  · rw [if_neg (fun h' => h h'.2), if_neg h]
theorem stepT_snoc (i : List (Nat × Nat)) (x : Nat × Nat) (t : Nat) : stepT (i ++ [x]) t = if x.1 + x.2 = t then i ++ [(x.1, x.2 + 1)] else i ++ [x] ++ [(t, 1)] := by
  unfold stepT
  rw [stepJ_snoc _ _ _ (by simp)]
def joinT (s : List Nat) : List (Nat × Nat) := s.foldl stepT []
def seqN (r : Nat × Nat) : List Nat := (List.range r.2).map fun k => r.1 + k
theorem seqN_succ (lo n : Nat) : seqN (lo, n + 1) = seqN (lo, n) ++ [lo + n] := by simp [seqN, List.range_succ]
/-- The sequence of a list. -/
def seqS (l : List (Int × Int)) : List Nat := l.flatMap fun r => seqN (clipS r)
theorem seqS_cons (r : Int × Int) (l : List (Int × Int)) : seqS (r :: l) = seqN (clipS r) ++ seqS l := rfl
theorem seqS_append (a b : List (Int × Int)) : seqS (a ++ b) = seqS a ++ seqS b := by simp [seqS]
theorem seqN_len (r : Nat × Nat) : (seqN r).length = r.2 := by simp [seqN]
theorem seqS_len (l : List (Int × Int)) : (seqS l).length = sizeS l := by
  induction l with
  | nil => rfl
  | cons r l ih => rw [seqS_cons, List.length_append, ih, seqN_len, sizeS_cons]
theorem mem_seqN (r : Nat × Nat) (t : Nat) : t ∈ seqN r ↔ r.1 ≤ t ∧ t < r.1 + r.2 := by
  simp only [seqN, List.mem_map, List.mem_range]
  constructor
  · rintro ⟨k, hk, rfl⟩; omega
  · rintro ⟨h1, h2⟩; exact ⟨t - r.1, by omega, by omega⟩
theorem mem_seqS (l : List (Int × Int)) (t : Nat) : t ∈ seqS l ↔ memS l t = true := by
  simp only [seqS, List.mem_flatMap, memS, List.any_eq_true, mem_seqN, inS, decide_eq_true_eq]
theorem seqS_lt (l : List (Int × Int)) : ∀ t ∈ seqS l, t < 128 := by
  intro t ht
  simp only [seqS, List.mem_flatMap, mem_seqN] at ht
  obtain ⟨r, _, h1, h2⟩ := ht
  have := clipS_le r
  omega
theorem clipS_nat (a b : Nat) (h : a + b ≤ 128) (hb : 0 < b) : clipS ((a : Int), (b : Int)) = (a, b) := by
  unfold clipS
  simp only []
  rw [if_neg (by omega), if_neg (by omega)]
  split
  · simp
  · exact Prod.ext (by simp) (by simp; omega)
theorem seqN_clip (a b : Nat) (h : a + b ≤ 128) : seqN (clipS ((a : Int), (b : Int))) = seqN (a, b) := by
  rcases Nat.eq_zero_or_pos b with rfl | hb
  · have : (clipS ((a : Int), ((0 : Nat) : Int))).2 = 0 := by unfold clipS; rw [if_pos (by simp)]
    unfold seqN
    rw [this]
    rfl
  · rw [clipS_nat a b h hb]
def seqL (l : List (Nat × Nat)) : List Nat := l.flatMap seqN
theorem seqS_ints (l : List (Nat × Nat)) (h : ∀ r ∈ l, r.1 + r.2 ≤ 128) : seqS (ints l) = seqL l := by
  induction l with
  | nil => rfl
  | cons r l ih =>
    show seqS (((r.1 : Int), (r.2 : Int)) :: ints l) = _
    rw [seqS_cons, seqN_clip _ _ (h r (by simp)), ih (fun x hx => h x (List.mem_cons_of_mem _ hx))]
    rfl
theorem seqL_append (a b : List (Nat × Nat)) : seqL (a ++ b) = seqL a ++ seqL b := by simp [seqL]
theorem seqL_one (r : Nat × Nat) : seqL [r] = seqN r := by simp [seqL]
theorem seqL_stepT (acc : List (Nat × Nat)) (t : Nat) : seqL (stepT acc t) = seqL acc ++ [t] := by
  rcases last_cases acc with rfl | ⟨i, x, rfl⟩
  · rw [stepT_nil]; simp [seqL, seqN]
  · rw [stepT_snoc]
    split
    · rename_i h
      rw [seqL_append, seqL_append, seqL_one, seqL_one, seqN_succ, ← List.append_assoc, h]
    · rw [seqL_append]
      simp [seqL, seqN]
theorem seqL_foldT (s : List Nat) : ∀ acc, seqL (s.foldl stepT acc) = seqL acc ++ s := by
  induction s with
  | nil => intro acc; simp
  | cons t s ih => intro acc; rw [List.foldl_cons, ih, seqL_stepT, List.append_assoc]; rfl
theorem seqL_joinT (s : List Nat) : seqL (joinT s) = s := by unfold joinT; rw [seqL_foldT]; rfl
theorem normTo_end (S : Nat → Bool) (k : Nat) : normTo S k = [] ∧ (0 < k → S (k - 1) = false) ∨ ∃ i x, normTo S k = i ++ [x] ∧ (x.1 + x.2 = k ↔ 0 < k ∧ S (k - 1) = true) := by
  induction k with
  | zero => exact .inl ⟨rfl, fun h => absurd h (by omega)⟩
  | succ k ih =>
    rw [normTo, Nat.add_sub_cancel]
    cases hS : S k with
    | false =>
      rw [stepN, if_pos hS]
      rcases ih with ⟨h, _⟩ | ⟨i, x, h, _⟩
      · exact .inl ⟨h, fun _ => rfl⟩
      · refine .inr ⟨i, x, h, ?_⟩
        have := normTo_bd S k x (by rw [h]; simp)
        constructor
        · intro h; omega
        · rintro ⟨_, h⟩; cases h
    | true =>
      rw [stepN, if_neg (by simp [hS])]
      by_cases hp : 0 < k ∧ S (k - 1) = true
      · rw [if_pos hp]
        rcases ih with ⟨h, h'⟩ | ⟨i, x, h, h'⟩
        · have := h' hp.1; rw [hp.2] at this; cases this
        · refine .inr ⟨i, (x.1, x.2 + 1), ?_, ?_⟩
          · rw [h, bump, last_getD, last_set]
          · have := h'.2 hp
            simp only []
            constructor
            · intro _; exact ⟨by omega, by first | rfl | trivial⟩
            · intro _; omega
      · rw [if_neg hp]
        exact .inr ⟨_, _, rfl, ⟨fun _ => ⟨by omega, by first | rfl | trivial⟩, fun _ => by simp⟩⟩
theorem normTo_joinT (S : Nat → Bool) (k : Nat) : normTo S k = joinT ((List.range k).filter S) := by
  induction k with
  | zero => rfl
  | succ k ih =>
    rw [normTo, List.range_succ, List.filter_append]
    unfold joinT at ih ⊢
    rw [List.foldl_append, ← ih]
    cases hS : S k with
    | false =>
      rw [stepN, if_pos hS, List.filter_cons_of_neg (by simp [hS])]
      rfl
    | true =>
      rw [stepN, if_neg (by simp [hS]), List.filter_cons_of_pos hS]
      show _ = stepT (normTo S k) k
      rcases normTo_end S k with ⟨h, h'⟩ | ⟨i, x, h, h'⟩
      · rw [if_neg (by rintro ⟨a, b⟩; rw [h' a] at b; cases b), h, stepT_nil]; rfl
      · by_cases hp : 0 < k ∧ S (k - 1) = true
        · rw [if_pos hp, h, stepT_snoc, if_pos (h'.2 hp), bump, last_getD, last_set]
        · rw [if_neg hp, h, stepT_snoc, if_neg (fun e => hp (h'.1 e))]
theorem normS_bd (S : Nat → Bool) : ∀ r ∈ normS S, r.1 + r.2 ≤ 128 := normTo_bd S 128
theorem normS_len (S : Nat → Bool) : (normS S).length ≤ 128 := normTo_len S 128
theorem seqS_normS (S : Nat → Bool) : seqS (ints (normS S)) = (List.range 128).filter S := by
  rw [seqS_ints _ (normS_bd S)]
  unfold normS
  rw [normTo_joinT, seqL_joinT]
theorem normS_congr {S T : Nat → Bool} (h : ∀ i, i < 128 → S i = T i) : normS S = normS T := normTo_congr 128 h
def pickT (s : List Nat) (i : Nat) : Int × Bool := if i < s.length then ((s.getD i 0 : Nat), true) else (0, false)
theorem atS_pick (l : List (Int × Int)) : ∀ i : Nat, atS l i = pickT (seqS l) i := by
  induction l with
  | nil => intro i; rfl
  | cons r l ih =>
    intro i
    rw [atS, seqS_cons]
    unfold pickT
    have hln := seqN_len (clipS r)
    by_cases h : (i : Int) < ((clipS r).2 : Int)
    · have h' : i < (clipS r).2 := by omega
      rw [if_pos h, if_pos (by rw [List.length_append]; omega)]
      refine Prod.ext ?_ rfl
      simp only [List.getD]
      rw [List.getElem?_append_left (by omega)]
      simp [seqN, h']
    · rw [if_neg h, show (i : Int) - ((clipS r).2 : Int) = ((i - (clipS r).2 : Nat) : Int) from by omega, ih]
      unfold pickT
      rw [List.length_append, hln]
      by_cases h2 : i - (clipS r).2 < (seqS l).length
      · rw [if_pos h2, if_pos (by omega)]
        simp only [List.getD]
        rw [List.getElem?_append_right (by omega), hln]
      · rw [if_neg h2, if_neg (by omega)]
theorem count_cons (x : Nat) (s : List Nat) : ∀ n, ((List.range n).filter fun i => decide (i ∈ x :: s)).length = ((List.range n).filter fun i => decide (i ∈ s)).length + if x < n ∧ x ∉ s then 1 else 0 := by
  intro n
  induction n with
  | zero => simp
  | succ n ih =>
    rw [List.range_succ, List.filter_append, List.filter_append, List.length_append, List.length_append, ih]
    by_cases hx : x = n
    · subst hx
      by_cases hs : x ∈ s
      · simp [List.filter_cons, hs]
      · simp [List.filter_cons, hs]
    · have e : decide (n ∈ x :: s) = decide (n ∈ s) := by
        rw [decide_eq_decide, List.mem_cons]
        exact ⟨fun h => h.resolve_left (fun e => hx e.symm), Or.inr⟩
      have e2 : (x < n + 1 ∧ x ∉ s) = (x < n ∧ x ∉ s) := by
        rw [eq_iff_iff]
        exact ⟨fun h => ⟨by omega, h.2⟩, fun h => ⟨by omega, h.2⟩⟩
      have e3 : ([n].filter fun i => decide (i ∈ x :: s)) = [n].filter fun i => decide (i ∈ s) := by rw [List.filter_cons, List.filter_cons, e]; rfl
      simp only [e2]
      rw [e3]
      omega
theorem count_le (s : List Nat) (n : Nat) : ((List.range n).filter fun i => decide (i ∈ s)).length ≤ s.length := by
  induction s with
  | nil => simp
  | cons x s ih => rw [count_cons, List.length_cons]; split <;> omega
theorem count_nodup (s : List Nat) (n : Nat) (h : ∀ x ∈ s, x < n) : ((List.range n).filter fun i => decide (i ∈ s)).length = s.length ↔ s.Nodup := by
  induction s with
  | nil => simp
  | cons x s ih =>
    have ih' := ih (fun y hy => h y (List.mem_cons_of_mem _ hy))
    have hx := h x (by simp)
    have hle := count_le s n
    rw [count_cons, List.length_cons, List.nodup_cons]
    by_cases hs : x ∈ s
    · rw [if_neg (fun h => h.2 hs)]
      constructor
      · intro e; omega
      · intro e; exact absurd hs e.1
    · rw [if_pos ⟨hx, hs⟩]
      constructor
      · intro e; exact ⟨hs, ih'.1 (by omega)⟩
      · intro e; have := ih'.2 e.2; omega
theorem sizeS_normS (S : Nat → Bool) : sizeS (ints (normS S)) = ((List.range 128).filter S).length := by rw [← seqS_len, seqS_normS]
theorem disjS (l : List (Int × Int)) : sizeS l = sizeS (ints (normS (memS l))) ↔ (seqS l).Nodup := by
  rw [sizeS_normS, ← count_nodup (seqS l) 128 (seqS_lt l), seqS_len]
  have : (fun i => decide (i ∈ seqS l)) = memS l := by
    funext i
    rw [Bool.eq_iff_iff, decide_eq_true_eq, mem_seqS]
  rw [this]
  exact eq_comm
end Go.Proofs.Ytnlaogneceanoaa
namespace Go.Proofs.Ytnlaogneceanoaa
set_option linter.unusedVariables false
set_option linter.unusedSimpArgs false
set_option linter.unusedSectionVars false
open Go.RowKit
def natC (t : Nat) : List Value := [.int .i64 (t : Int)]
theorem info_int : (Try.prog.info? 3).map (fun i => (i.zero, i.size, i.bytes)) = some (some (.int .i64 0), 1, 8) := by kernel_rfl
theorem nat_at {w : World} {B : Nat} {A : Option Addr} {s : List Nat} (h : ListAt w B 1 A (s.map natC)) {k : Nat} (hk : k < s.length) :
    ∃ b off, A = some ⟨b, off, none⟩ ∧ b < B ∧ w.cell? ⟨b, off + k, none⟩ = some (.int .i64 (s[k] : Int)) := by
  obtain ⟨b, off, e, hb, hc⟩ := h (by simp; omega)
  have := hc k (natC s[k]) (by rw [List.getElem?_map, List.getElem?_eq_getElem hk]; rfl) 0 _ rfl
  rw [Nat.mul_one, Nat.add_zero] at this
  exact ⟨b, off, e, hb, this⟩
theorem seqS_snoc (l : List (Int × Int)) (k : Nat) (h : k < l.length) : seqS (l.take (k + 1)) = seqS (l.take k) ++ seqN (clipS l[k]) := by
  rw [List.take_succ_eq_append_getElem h, seqS_append, seqS_cons]
  simp [seqS]
set_option maxRecDepth 100000 in
set_option maxHeartbeats 4000000 in
theorem seq_any (A : Option Addr) (c : Nat) (l : List (Int × Int)) (w : World) (B : Nat) (hB : B ≤ w.heap.size) (hl : l.length ≤ 100000) (hr : RunsAt w B A l) :
    Calls Try.prog 69 #[.slice A l.length c] w fun e w' => ∃ v, e = .returned v ∧ OwnL w' w.heap.size 3 1 v ((seqS l).map natC) ∧ Grew w w' := by
  have HR := Lib.hid hr
  clear hr
  go_enter Try.func69, Try.ntmps69
  go_wp2_with fail
  go_loopg [3, 4] l.length (fun gk v i wr => ∃ k : Nat, k ≤ l.length ∧ gk = l.length - k ∧ i = .int .i64 k ∧ OwnL wr w.heap.size 3 1 v ((seqS (l.take k)).map natC) ∧ Grew w wr)
  case atStart => exact ⟨0, by omega, by omega, rfl, OwnL.empty w _ _ _ (Nat.le_refl _) rfl, by (repeat' first | (with_reducible exact Grew.refl _) | (with_reducible assumption) | (with_reducible refine Grew.alloc ?_ _) | (with_reducible refine Grew.drew ?_) | (with_reducible refine Grew.drewN ?_ _) | (with_reducible refine Grew.setRow ?_ (by first | (simp; done) | (simp; omega) | omega) _) | (with_reducible refine Grew.setCell ?_ (by first | (simp; done) | (simp; omega) | omega) _) | ((with_reducible apply Grew.trans); rotate_left; (with_reducible assumption)) | ((with_reducible apply Grew.turn); rotate_left; (with_reducible assumption); (focus (intro i hi; first | omega | (simp at hi; omega)))) | fail)⟩
  case round =>
    obtain ⟨k, hk, hgk, rfl, hown, hg⟩ := hrel
    have HGK := Lib.hid hgk
    clear hgk
    by_cases hlt : k < l.length
    · obtain ⟨b, off, f, c, rfl, hb, hlk, ⟨f0, f1, c0, c1⟩, x0, x1⟩ := (HR.out.keep hB hg).at_ hlt
      simp only at f0 f1 c0 c1
      have hbs : b < wr.heap.size := by have := hg.size; omega
      have hws := hg.size
      have hle := clipS_le (f, c)
      have HN := Lib.hid (show seqS (l.take (k + 1)) = seqS (l.take k) ++ seqN (clipS (f, c)) from by rw [seqS_snoc l k hlt, hlk])
      have HLE := Lib.hid (show (seqS (l.take k)).length ≤ 128 * k from by rw [seqS_len]; have := sizeS_le (l.take k); have := List.length_take_le k l; omega)
      clear hlk
      have HC := fun W => Lib.hid (refclip_any f c W f0 f1 c0 c1)
      generalize clipS (f, c) = r at *
      generalize seqS (l.take k) = s at *
      obtain ⟨lo, nn⟩ := r
      simp only at hle
      go_wp2_with fail
      refine (HC _).out.mono ?_
      rintro e w1 ⟨rfl, g1⟩
      have hg1 := hg.trans g1
      have hown1 := hown.grew g1
      clear hg hown x0 x1 hbs
      have hws1 := hg1.size
      go_wp2_with fail
      go_loopg [3, 6] nn (fun gk2 v i wx => ∃ j : Nat, j ≤ nn ∧ gk2 = nn - j ∧ i = .int .i64 j ∧ OwnL wx w.heap.size 3 1 v ((s ++ seqN (lo, j)).map natC) ∧ Blk wx w1.heap.size 58 #[.int .i64 lo, .int .i64 nn] ∧ Grew w wx)
      case atStart => exact ⟨0, by omega, by omega, rfl, by (rw [show s ++ seqN (lo, 0) = s from by simp [seqN]]; exact hown1.alloc _), by (apply Blk.conv; (· (repeat' first | (with_reducible assumption) | (with_reducible apply Blk.setRow) | ((with_reducible apply Blk.farRow); rotate_left; (focus (first | (simp; done) | (simp; omega) | omega))) | (with_reducible apply Blk.drew) | (with_reducible apply Blk.drewN) | (with_reducible apply Blk.set_) | (with_reducible exact Blk.new _ _ _ (by first | rfl | (simp; done) | (simp; omega))) | (with_reducible apply Blk.alloc) | ((with_reducible apply Blk.far); rotate_left; (focus (first | (simp; done) | (simp; omega) | omega))) | ((with_reducible apply Blk.grew); rotate_left; (with_reducible assumption)) | ((with_reducible apply Blk.turned); rotate_left; (with_reducible assumption); (focus (first | (simp; done) | (simp; omega) | omega))) | fail)); (· rfl)), by (repeat' first | (with_reducible exact Grew.refl _) | (with_reducible assumption) | (with_reducible refine Grew.alloc ?_ _) | (with_reducible refine Grew.drew ?_) | (with_reducible refine Grew.drewN ?_ _) | (with_reducible refine Grew.setRow ?_ (by first | (simp; done) | (simp; omega) | omega) _) | (with_reducible refine Grew.setCell ?_ (by first | (simp; done) | (simp; omega) | omega) _) | ((with_reducible apply Grew.trans); rotate_left; (with_reducible assumption)) | ((with_reducible apply Grew.turn); rotate_left; (with_reducible assumption); (focus (intro i hi; first | omega | (simp at hi; omega)))) | fail)⟩
      case round =>
        obtain ⟨j, hj, hgj, rfl, hownx, hbx, hgx⟩ := hrel
        have HGJ := Lib.hid hgj
        clear hgj
        have hx := hbx.lt
        have y0 := hbx.cell 0
        have y1 := hbx.cell 1
        have hne := hownx.ne_blk hbx (by decide)
        have HLS := Lib.hid (show ((s ++ seqN (lo, j)).map natC).length = s.length + j from by rw [List.length_map, List.length_append, seqN_len])
        have HS := Lib.hid (show s ++ seqN (lo, j + 1) = (s ++ seqN (lo, j)) ++ [lo + j] from by rw [seqN_succ, List.append_assoc])
        have hsl : s.length ≤ 128 * 100000 := by have := HLE.out; omega
        clear hown1 hg1
        by_cases hjn : j < nn
        · go_wp2_with (at_builtin; refine wpList_push rfl _ _ 108 rfl w.heap.size 3 1 8 _ Try.underlying108 info_int rfl (by decide) _ _ ((s ++ seqN (lo, j)).map natC) (natC (lo + j)) (by rfl) rfl rfl hownx (by first | rfl | (simp; done)) rfl rfl (by rw [HLS.out]; omega) (by rw [HLS.out]; omega) hgx.size ?_; intro v' w3 hown3 hgr hbk hsz)
          go_roundg (nn - (j + 1))
          case measure => rw [HGJ.out]; omega
          case rel => exact ⟨j + 1, by omega, by omega, by go_num, by rw [HS.out, List.map_append]; exact hown3, hbk _ _ _ hbx hne, hgr _ hgx (Nat.le_refl _)⟩
        · obtain rfl : j = nn := by omega
          go_wp2_with fail
          go_roundg (l.length - (k + 1))
          case measure => rw [HGK.out]; omega
          case rel => exact ⟨k + 1, by omega, by omega, by go_num, by rw [HN.out]; exact hownx, hgx⟩
    · obtain rfl : k = l.length := by omega
      rw [List.take_length] at hown
      go_wp2_with fail
      go_ret
      exact ⟨_, rfl, hown, hg⟩
theorem own_nats {w : World} {base : Nat} {v : Value} {s : List Nat} (h : OwnL w base 3 1 v (s.map natC)) : ∃ A c, v = .slice A s.length c ∧ ListAt w w.heap.size 1 A (s.map natC) := by
  obtain ⟨A, c, hv, _, _, hl⟩ := h.listAt
  exact ⟨A, c, by rw [hv, List.length_map], hl⟩
section
variable (A : Option Addr) (c : Nat) (l : List (Int × Int)) (w : World) (B : Nat) (hB : B ≤ w.heap.size) (hl : l.length ≤ 100000) (hr : RunsAt w B A l)
include hB hl hr
set_option maxRecDepth 100000 in
set_option maxHeartbeats 4000000 in
theorem refat_any (t : Int) (t0 : -9223372036854775808 ≤ t) (t1 : t ≤ 9223372036854775807) :
    Calls Try.prog 32 #[.slice A l.length c, .int .i64 t] w fun e w' => e = .returned (.tuple #[.int .i64 (if t < 0 then (0, false) else atS l t).1, .bool (if t < 0 then (0, false) else atS l t).2]) ∧ Grew w w' := by
  have HS := Lib.hid (seq_any A c l w B hB hl hr)
  have HLE := Lib.hid (show (seqS l).length ≤ 128 * l.length from by rw [seqS_len]; exact sizeS_le l)
  clear hr
  by_cases hneg : t < 0
  · rw [if_pos hneg]
    go_enter Try.func32, Try.ntmps32
    go_wp2_with fail
    refine HS.out.mono ?_
    rintro e w1 ⟨v, rfl, hown, g1⟩
    go_wp2_with fail
    go_ret2
    exact ⟨rfl, g1⟩
  · rw [if_neg hneg]
    obtain ⟨i, rfl⟩ : ∃ i : Nat, t = (i : Int) := ⟨t.toNat, by omega⟩
    have HA := Lib.hid (atS_pick l i)
    generalize seqS l = s at *
    go_enter Try.func32, Try.ntmps32
    go_wp2_with fail
    refine HS.out.mono ?_
    rintro e w1 ⟨v, rfl, hown, g1⟩
    obtain ⟨A', c', rfl, hla⟩ := own_nats hown
    by_cases hi : i < s.length
    · have HF := Lib.hid (HA.out.trans (if_pos hi))
      obtain ⟨b, off, rfl, hb, hc⟩ := nat_at hla hi
      have hsl : s.length ≤ 128 * 100000 := by have := HLE.out; omega
      have HX := Lib.hid (show (s.getD i 0) = s[i] from by simp [List.getD, hi])
      generalize s[i] = x at *
      go_wp2_with fail
      go_ret2
      exact ⟨ret_ib (by rw [HF.out, HX.out]) (by rw [HF.out]), g1⟩
    · have HF := Lib.hid (HA.out.trans (if_neg hi))
      have hsl : s.length ≤ 128 * 100000 := by have := HLE.out; omega
      go_wp2_with fail
      go_ret2
      exact ⟨ret_ib (by rw [HF.out]) (by rw [HF.out]), g1⟩
end
end Go.Proofs.Ytnlaogneceanoaa
namespace Go.Proofs.Ytnlaogneceanoaa
set_option linter.unusedVariables false
set_option linter.unusedSimpArgs false
set_option linter.unusedSectionVars false
open Go.RowKit
theorem flatten_row {rows : List (List Value)} {sz : Nat} (h : ∀ r ∈ rows, r.length = sz) : ∀ (q : Nat) (u : Value), rows.flatten[q]? = some u → ∃ j i r, rows[j]? = some r ∧ r[i]? = some u ∧ q = j * sz + i := by
  induction rows with
  | nil => intro q u hq; simp at hq
  | cons x rows ih =>
    intro q u hq
    have hx := h x (by simp)
    rw [List.flatten_cons] at hq
    rcases Nat.lt_or_ge q x.length with hlt | hge
    · rw [List.getElem?_append_left hlt] at hq
      exact ⟨0, q, x, rfl, hq, by omega⟩
    · rw [List.getElem?_append_right hge] at hq
      obtain ⟨j, i, r, h1, h2, h3⟩ := ih (fun y hy => h y (List.mem_cons_of_mem _ hy)) _ u hq
      exact ⟨j + 1, i, r, h1, h2, by rw [Nat.succ_mul]; omega⟩
section
variable {P : Program}
theorem run_append_empty {w : World} (base : Nat) (t ty e : TypeId) (i : TypeInfo) (size : Nat) (ht : P.underlying t = some (.slice e)) (hi : P.info? e = some i)
    (v : Value) (n : Nat) (xs : List Value) (hown : w.ownsRow base e size v n xs) (c : Nat) : (Builtin.append_ #[t, t] ty #[v, .slice none 0 c]).run P w = .ok v w := by
  rcases hown.2 with ⟨rfl, rfl⟩ | ⟨g, cap, cur, rfl, _, _, hnc, _⟩
  · simp [Builtin.append_, run_underlying ht, sizeOf, typeInfo, hi, Builtin.lenOf, Builtin.firstCells]
  · simp [Builtin.append_, run_underlying ht, sizeOf, typeInfo, hi, Builtin.lenOf, Builtin.firstCells, hnc, storeCells]
theorem wpList_pushAll {W : World} {ops : Array Oper} {rest : List Oper} {o : Oper} {a : Act} {Q : Exit → Act → World → Prop} (hwt : Region.wanted o (yielded ops a.tmps) = true) (s x : Operand) (t : TypeId)
    (ho : o.op = .call { callee := .builtin .append, args := #[s, x], argTypes := #[t, t] })
    (base e size bytes : Nat) (z : Value) (ht : P.underlying t = some (.slice e)) (hi : (P.info? e).map (fun i => (i.zero, i.size, i.bytes)) = some (some z, size, bytes)) (hzs : z.cells.size = size) (hsz : 0 < size)
    (v : Value) (rows rows' : List (List Value)) (hs : a.eval s = v) (hown : OwnL W base e size v rows) (A : Option Addr) (m c : Nat) (hx : a.eval x = .slice A m c) (hm : m = rows'.length) (hlen' : ∀ r ∈ rows', r.length = size) (hl : ListAt W W.heap.size size A rows') (h1 : ∀ r ∈ rows', r.all (·.oneCell') = true)
    (hlen : (rows.length + m) * bytes ≤ 140737488355328) (h63 : rows.length + m ≤ 9223372036854775807) (hbase : base ≤ W.heap.size)
    (h : ∀ v' w', OwnL w' base e size v' (rows ++ rows') → W.grownBy w' v.ownBlock → (v'.ownBlock = v.ownBlock ∨ v'.ownBlock = some W.heap.size) → wpList P ops Q rest (a.put o.dst v') w') :
    wpList P ops Q (o :: rest) a W := by
  subst hm
  obtain ⟨i, hi', hz0, hz1, hz2⟩ : ∃ i, P.info? e = some i ∧ i.zero = some z ∧ i.size = size ∧ i.bytes = bytes := by
    cases hq : P.info? e with
    | none => rw [hq] at hi; cases hi
    | some i => rw [hq] at hi; simp at hi; exact ⟨i, rfl, hi.1, hi.2.1, hi.2.2⟩
  have hflat := flatten_len hlen'
  obtain ⟨v', w', hrun, hown', hg, hat⟩ : ∃ v' w', (Builtin.append_ #[t, t] o.type #[v, .slice A rows'.length c]).run P W = .ok v' w' ∧ w'.ownsRow base e size v' (rows.length + rows'.length) (rows.flatten ++ rows'.flatten) ∧ W.grownBy w' v.ownBlock ∧
      (v'.ownBlock = v.ownBlock ∨ v'.ownBlock = some W.heap.size) := by
    cases A with
    | none =>
      have h0 : rows' = [] := by
        rcases Nat.eq_zero_or_pos rows'.length with h0 | h0
        · exact List.length_eq_zero_iff.1 h0
        · obtain ⟨b, off, e, _⟩ := hl h0
          cases e
      subst h0
      exact ⟨v, W, run_append_empty base t o.type e i size ht hi' v _ _ hown.2 c, by simpa using hown.2, World.grownBy.refl W _, .inl rfl⟩
    | some ad =>
      obtain ⟨v', w', hrun, h2, h3, _, h5⟩ := run_append_own_at (P := P) W base t o.type e i z size bytes ht hi' hz0 hz1 hz2 hzs hsz v rows.length rows.flatten hown.2 ad rows'.length c rows'.flatten hflat
        (fun q u hq => by
          obtain ⟨j, i, r, hj, hir, hqq⟩ := flatten_row hlen' q u hq
          obtain ⟨b, off, e, _, hc⟩ := hl (by have := (List.getElem?_eq_some_iff.1 hj).1; omega)
          injection e with e
          subst e
          rw [add_plain, hqq, ← Nat.add_assoc]
          exact hc j r hj i u hir)
        (fun u hu => by
          obtain ⟨r, hr, hur⟩ := List.mem_flatten.1 hu
          exact List.all_eq_true.1 (h1 r hr) u hur) (by unfold maxLen; omega) hlen hbase
      exact ⟨v', w', hrun, h2, h3, h5⟩
  have hK : ∀ K : Act → World → Prop, K (a.put o.dst v') w' → o.wp P a W K Q := by
    intro K hk
    unfold Oper.wp execOp
    simp only [ho, resolve, invoke, builtin, Sem.run_bind, Sem.run_pure, Result.andThen_ok, List.map_toArray, List.map_cons, List.map_nil, hs, hx, hrun]
    exact hk
  have hend := h v' w' ⟨fun r hr => (List.mem_append.1 hr).elim (hown.1 r) (hlen' r), by rw [List.flatten_append, List.length_append]; exact hown'⟩ hg hat
  exact wpList_step fun K hk => by rw [if_pos hwt]; exact hK K (hk _ _ hend)
end
end Go.Proofs.Ytnlaogneceanoaa
namespace Go.Proofs.Ytnlaogneceanoaa
set_option linter.unusedVariables false
set_option linter.unusedSimpArgs false
set_option linter.unusedSectionVars false
open Go.RowKit
theorem back {w w' : World} {base : Nat} {v : Value} {l : List (Nat × Nat)} {k : List (Int × Int)} (hk : ints l = k) (hb : ∀ r ∈ l, r.1 + r.2 ≤ 128) (hown : OwnL w' base 58 2 v (l.map rowN)) (hg : Grew w w') :
    ∃ A c, (Ending.returned v) = .returned (.slice A k.length c) ∧ RunsAt w' w'.heap.size A k ∧ Grew w w' := by
  subst hk
  obtain ⟨A', c', hv, hr'⟩ := own_runs hown (fun r hr => Nat.le_trans (hb r hr) (by omega))
  exact ⟨A', c', by rw [hv], hr', hg⟩
section
variable {A : Option Addr} {c n : Nat} {l : List (Int × Int)} {w : World}
theorem refat_val (hn : n = l.length) (hl : l.length ≤ 100000) (hr : RunsAt w w.heap.size A l) (t : Int) (t0 : -9223372036854775808 ≤ t) (t1 : t ≤ 9223372036854775807) (a : Int) (b : Bool) (h : (if t < 0 then (0, false) else atS l t) = (a, b)) :
    Calls Try.prog 32 #[.slice A n c, .int .i64 t] w fun e w' => e = .returned (.tuple #[.int .i64 a, .bool b]) ∧ Grew w w' := by
  subst hn
  have := refat_any A c l w w.heap.size (Nat.le_refl _) (by omega) hr t t0 t1
  rw [h] at this
  exact this
theorem contains_val (hn : n = l.length) (hl : l.length ≤ 1000000) (hr : RunsAt w w.heap.size A l) (t : Int) (t0 : -9223372036854775808 ≤ t) (t1 : t ≤ 9223372036854775807) (b : Bool) (h : inT l t = b) :
    Calls Try.prog 12 #[.slice A n c, .int .i64 t] w fun e w' => e = .returned (.bool b) ∧ Grew w w' := by
  subst hn; subst h
  have := contains_any A c l w w.heap.size (Nat.le_refl _) hl hr t t0 t1
  rwa [idxS_snd] at this
theorem disjoint_val (hn : n = l.length) (hl : l.length ≤ 1000000) (hr : RunsAt w w.heap.size A l) (b : Bool) (h : decide (seqS l).Nodup = b) :
    Calls Try.prog 11 #[.slice A n c] w fun e w' => e = .returned (.bool b) ∧ Grew w w' := by
  subst hn; subst h
  refine (disjoint_any A c l w w.heap.size (Nat.le_refl _) hl hr).mono ?_
  rintro e w1 ⟨rfl, g1⟩
  refine ⟨ret_bool ?_, g1⟩
  have := disjS l
  rw [Bool.eq_iff_iff, beq_iff_eq, decide_eq_true_eq, ← this]
  omega
end
section
variable {A1 A2 : Option Addr} {c1 c2 n1 n2 : Nat} {l1 l2 : List (Int × Int)} {w : World}
theorem minus_val (hn1 : n1 = l1.length) (hn2 : n2 = l2.length) (hl1 : l1.length ≤ 1000000) (hl2 : l2.length ≤ 1000000) (hr1 : RunsAt w w.heap.size A1 l1) (hr2 : RunsAt w w.heap.size A2 l2) (k : List (Int × Int)) (hk : ints (normS fun i => memS l1 i && !memS l2 i) = k) :
    Calls Try.prog 92 #[.slice A1 n1 c1, .slice A2 n2 c2] w fun e w' => ∃ A c, e = .returned (.slice A k.length c) ∧ RunsAt w' w'.heap.size A k ∧ Grew w w' := by
  subst hn1; subst hn2
  refine (minus_any A1 A2 c1 c2 l1 l2 w w.heap.size (Nat.le_refl _) hl1 hl2 hr1 hr2).mono ?_
  rintro e w1 ⟨v, rfl, hown, g1⟩
  exact back hk (normS_bd _) hown g1
end
end Go.Proofs.Ytnlaogneceanoaa
namespace Go.Proofs.Ytnlaogneceanoaa
set_option linter.unusedVariables false
set_option linter.unusedSimpArgs false
set_option linter.unusedSectionVars false
open Go.RowKit
def okT (t : Int) : Bool := decide (4 ≤ t ∧ t ≤ 128)
def ttS (t : Int) : Int := if okT t = true then (t + 3) / 4 else 0
def slotsS (t : Int) : Int := max 0 (ttS t - 1)
theorem okT_true {t : Int} (h : okT t = true) : 4 ≤ t ∧ t ≤ 128 := by simpa [okT] using h
theorem ttS_bd (t : Int) : 0 ≤ ttS t ∧ ttS t ≤ 32 := by
  unfold ttS
  cases h : okT t with
  | true => have := okT_true h; rw [if_pos rfl]; omega
  | false => rw [if_neg (by simp)]; omega
set_option maxRecDepth 100000 in
theorem tracksOK_any (t : Int) (w : World) : Calls Try.prog 71 #[.int .i64 t] w fun e w' => e = .returned (.bool (okT t)) ∧ w = w' := by
  have HO := Lib.hid (show okT t = decide (4 ≤ t ∧ t ≤ 128) from rfl)
  by_cases h1 : 4 ≤ t
  · by_cases h2 : t ≤ 128
    · have HE := Lib.hid (show okT t = true from by rw [HO.out]; simp [h1, h2])
      go_enter Try.func71, Try.ntmps71
      go_wp2
      go_ret
      exact ⟨ret_bool (by rw [HE.out]), rfl⟩
    · have HE := Lib.hid (show okT t = false from by rw [HO.out]; simp [h1, h2])
      go_enter Try.func71, Try.ntmps71
      go_wp2
      go_ret
      exact ⟨ret_bool (by rw [HE.out]), rfl⟩
  · have HE := Lib.hid (show okT t = false from by rw [HO.out]; simp [h1])
    go_enter Try.func71, Try.ntmps71
    go_wp2
    go_ret
    exact ⟨ret_bool (by rw [HE.out]), rfl⟩
set_option maxRecDepth 100000 in
theorem table_any (t : Int) (w : World) : Calls Try.prog 39 #[.int .i64 t] w fun e w' => e = .returned (.int .i64 (ttS t)) ∧ w = w' := by
  cases h : okT t with
  | true =>
    have HE := Lib.hid h
    obtain ⟨h1, h2⟩ := okT_true h
    have HT := Lib.hid (show ttS t = (t + 3) / 4 from by unfold ttS; rw [if_pos h])
    clear h
    go_enter Try.func39, Try.ntmps39
    go_wp2_with fail
    refine (tracksOK_any _ _).mono ?_
    rintro e w1 ⟨rfl, rfl⟩
    rw [HE.out]
    go_wp2_with fail
    go_ret
    exact ⟨ret_int (by rw [HT.out]), rfl⟩
  | false =>
    have HE := Lib.hid h
    have HT := Lib.hid (show ttS t = 0 from by unfold ttS; rw [if_neg (by rw [h]; simp)])
    clear h
    go_enter Try.func39, Try.ntmps39
    go_wp2_with fail
    refine (tracksOK_any _ _).mono ?_
    rintro e w1 ⟨rfl, rfl⟩
    rw [HE.out]
    go_wp2_with fail
    go_ret
    exact ⟨ret_int (by rw [HT.out]), rfl⟩
set_option maxRecDepth 100000 in
theorem slots_any (t : Int) (w : World) : Calls Try.prog 41 #[.int .i64 t] w fun e w' => e = .returned (.int .i64 (slotsS t)) ∧ w = w' := by
  obtain ⟨h0, h1⟩ := ttS_bd t
  have HS := Lib.hid (show slotsS t = max 0 (ttS t - 1) from rfl)
  have HC := Lib.hid (table_any t w)
  generalize ttS t = n at *
  by_cases h : 1 ≤ n
  · go_enter Try.func41, Try.ntmps41
    go_wp2_with fail
    refine HC.out.mono ?_
    rintro e w1 ⟨rfl, rfl⟩
    go_wp2_with fail
    all_goals
      go_ret
      exact ⟨ret_int (by rw [HS.out] <;> omega), rfl⟩
  · go_enter Try.func41, Try.ntmps41
    go_wp2_with fail
    refine HC.out.mono ?_
    rintro e w1 ⟨rfl, rfl⟩
    go_wp2_with fail
    all_goals
      go_ret
      exact ⟨ret_int (by rw [HS.out] <;> omega), rfl⟩
end Go.Proofs.Ytnlaogneceanoaa
namespace Go.Proofs.Ytnlaogneceanoaa
set_option linter.unusedVariables false
set_option linter.unusedSimpArgs false
set_option linter.unusedSectionVars false
open Go.RowKit
structure Lab where
  id : Int
  unit : Int
  name : ByteArray
  note : ByteArray
  ext : List (Int × Int)
instance : Inhabited Lab := ⟨⟨0, 0, ⟨#[]⟩, ⟨#[]⟩, []⟩⟩
def labZ : Lab := ⟨0, 0, ⟨#[]⟩, ⟨#[]⟩, []⟩
/-- A label in memory: its extents lie in the slice A of capacity c. -/
structure LabAt (w : World) (A : Option Addr) (c : Nat) (l : Lab) : Prop where
  id0 : -9223372036854775808 ≤ l.id
  id1 : l.id ≤ 9223372036854775807
  unit0 : -9223372036854775808 ≤ l.unit
  unit1 : l.unit ≤ 9223372036854775807
  name : l.name.size ≤ 9223372036854775807
  note : l.note.size ≤ 9223372036854775807
  runs : RunsAt w w.heap.size A l.ext
  len : l.ext.length ≤ c
  cap : c ≤ 9223372036854775807
theorem LabAt.hold {w w' : World} {A : Option Addr} {c : Nat} {l : Lab} (h : LabAt w A c l) (hg : Grew w w') : LabAt w' A c l :=
  ⟨h.id0, h.id1, h.unit0, h.unit1, h.name, h.note, ⟨h.runs.1, (ListAt.keep h.runs.2 (Nat.le_refl _) hg).mono hg.size⟩, h.len, h.cap⟩
theorem LabAt.zero (w : World) : LabAt w none 0 labZ := ⟨by decide, by decide, by decide, by decide, by decide, by decide, ⟨by simp [labZ], fun h => by simp [labZ] at h⟩, by simp [labZ], by omega⟩
def fewL (l : Lab) : Bool := decide (l.name.size ≤ 100) && decide (l.note.size ≤ 500) && decide (l.ext.length ≤ 30)
def eqL (a b : Lab) : Bool := (a.id == b.id) && ((a.unit == b.unit) && ((a.name.toList == b.name.toList) && ((a.note.toList == b.note.toList) && decide (a.ext = b.ext))))
set_option maxRecDepth 100000 in
set_option maxHeartbeats 1000000 in
theorem few_any (A : Option Addr) (c : Nat) (l : Lab) (w : World) (h : LabAt w A c l) :
    Calls Try.prog 8 #[.agg #[.int .i64 l.id, .int .i64 l.unit, .string l.name, .string l.note, .slice A l.ext.length c]] w fun e w' => e = .returned (.bool (fewL l)) ∧ Grew w w' := by
  have h1 := h.name
  have h2 := h.note
  have h3 := h.len
  have h4 := h.cap
  obtain ⟨id, unit, name, note, ext⟩ := l
  simp only at h1 h2 h3 h4
  have HF := Lib.hid (show fewL ⟨id, unit, name, note, ext⟩ = (decide (name.size ≤ 100) && decide (note.size ≤ 500) && decide (ext.length ≤ 30)) from rfl)
  clear h
  generalize ext.length = n at *
  by_cases b1 : name.size ≤ 100
  · by_cases b2 : note.size ≤ 500
    · by_cases b3 : n ≤ 30
      · have b3i : (n : Int) ≤ 30 := by omega
        have HE := Lib.hid (show fewL ⟨id, unit, name, note, ext⟩ = true from HF.out.trans (by simp [b1, b2, b3]))
        clear HF
        go_enter Try.func8, Try.ntmps8
        go_wp2
        go_ret
        exact ⟨ret_bool (by rw [HE.out]), by (repeat' first | (with_reducible exact Grew.refl _) | (with_reducible assumption) | (with_reducible refine Grew.alloc ?_ _) | (with_reducible refine Grew.drew ?_) | (with_reducible refine Grew.drewN ?_ _) | (with_reducible refine Grew.setRow ?_ (by first | (simp; done) | (simp; omega) | omega) _) | (with_reducible refine Grew.setCell ?_ (by first | (simp; done) | (simp; omega) | omega) _) | ((with_reducible apply Grew.trans); rotate_left; (with_reducible assumption)) | ((with_reducible apply Grew.turn); rotate_left; (with_reducible assumption); (focus (intro i hi; first | omega | (simp at hi; omega)))) | fail)⟩
      · have b3i : ¬ (n : Int) ≤ 30 := by omega
        have HE := Lib.hid (show fewL ⟨id, unit, name, note, ext⟩ = false from HF.out.trans (by simp [b1, b2, b3]))
        clear HF
        go_enter Try.func8, Try.ntmps8
        go_wp2
        go_ret
        exact ⟨ret_bool (by rw [HE.out]), by (repeat' first | (with_reducible exact Grew.refl _) | (with_reducible assumption) | (with_reducible refine Grew.alloc ?_ _) | (with_reducible refine Grew.drew ?_) | (with_reducible refine Grew.drewN ?_ _) | (with_reducible refine Grew.setRow ?_ (by first | (simp; done) | (simp; omega) | omega) _) | (with_reducible refine Grew.setCell ?_ (by first | (simp; done) | (simp; omega) | omega) _) | ((with_reducible apply Grew.trans); rotate_left; (with_reducible assumption)) | ((with_reducible apply Grew.turn); rotate_left; (with_reducible assumption); (focus (intro i hi; first | omega | (simp at hi; omega)))) | fail)⟩
    · have b3 := b2
      have HE := Lib.hid (show fewL ⟨id, unit, name, note, ext⟩ = false from HF.out.trans (by simp [b1, b2, b3]))
      clear HF
      go_enter Try.func8, Try.ntmps8
      go_wp2
      go_ret
      exact ⟨ret_bool (by rw [HE.out]), by (repeat' first | (with_reducible exact Grew.refl _) | (with_reducible assumption) | (with_reducible refine Grew.alloc ?_ _) | (with_reducible refine Grew.drew ?_) | (with_reducible refine Grew.drewN ?_ _) | (with_reducible refine Grew.setRow ?_ (by first | (simp; done) | (simp; omega) | omega) _) | (with_reducible refine Grew.setCell ?_ (by first | (simp; done) | (simp; omega) | omega) _) | ((with_reducible apply Grew.trans); rotate_left; (with_reducible assumption)) | ((with_reducible apply Grew.turn); rotate_left; (with_reducible assumption); (focus (intro i hi; first | omega | (simp at hi; omega)))) | fail)⟩
  · have b3 := b1
    have b2 := b1
    have HE := Lib.hid (show fewL ⟨id, unit, name, note, ext⟩ = false from HF.out.trans (by simp [b1, b2, b3]))
    clear HF
    go_enter Try.func8, Try.ntmps8
    go_wp2
    go_ret
    exact ⟨ret_bool (by rw [HE.out]), by (repeat' first | (with_reducible exact Grew.refl _) | (with_reducible assumption) | (with_reducible refine Grew.alloc ?_ _) | (with_reducible refine Grew.drew ?_) | (with_reducible refine Grew.drewN ?_ _) | (with_reducible refine Grew.setRow ?_ (by first | (simp; done) | (simp; omega) | omega) _) | (with_reducible refine Grew.setCell ?_ (by first | (simp; done) | (simp; omega) | omega) _) | ((with_reducible apply Grew.trans); rotate_left; (with_reducible assumption)) | ((with_reducible apply Grew.turn); rotate_left; (with_reducible assumption); (focus (intro i hi; first | omega | (simp at hi; omega)))) | fail)⟩
set_option maxRecDepth 100000 in
set_option maxHeartbeats 1000000 in
theorem lequal_any (A B : Option Addr) (c d : Nat) (a b : Lab) (w : World) (ha : LabAt w A c a) (hb : LabAt w B d b) (hla : a.ext.length ≤ 100000) (hlb : b.ext.length ≤ 100000) :
    Calls Try.prog 62 #[.agg #[.int .i64 a.id, .int .i64 a.unit, .string a.name, .string a.note, .slice A a.ext.length c], .agg #[.int .i64 b.id, .int .i64 b.unit, .string b.name, .string b.note, .slice B b.ext.length d]] w fun e w' => e = .returned (.bool (eqL a b)) ∧ Grew w w' := by
  obtain ⟨i1, u1, n1, t1, e1⟩ := a
  obtain ⟨i2, u2, n2, t2, e2⟩ := b
  have ra := ha.runs
  have rb := hb.runs
  simp only at ra rb hla hlb
  have ga := ((Grew.refl w).alloc (.cells #[.int .i64 i1, .int .i64 u1, .string n1, .string t1, .slice A e1.length c] 24)).alloc (.cells #[.int .i64 i2, .int .i64 u2, .string n2, .string t2, .slice B e2.length d] 24)
  have HC := Lib.hid (equal_any A B c d e1 e2 _ w.heap.size ga.size (by omega) (by omega) (ra.keep (Nat.le_refl _) ga) (rb.keep (Nat.le_refl _) ga))
  have HE := Lib.hid (show eqL ⟨i1, u1, n1, t1, e1⟩ ⟨i2, u2, n2, t2, e2⟩ = ((i1 == i2) && ((u1 == u2) && ((n1.toList == n2.toList) && ((t1.toList == t2.toList) && decide (e1 = e2))))) from rfl)
  have HG := Lib.hid ga
  clear ha hb ra rb ga
  cases b1 : (i1 == i2) with
  | false =>
    have HB := Lib.hid b1
    go_enter Try.func62, Try.ntmps62
    go_wp2_with fail
    go_ret
    exact ⟨ret_bool (by rw [HE.out, HB.out]; rfl), HG.out⟩
  | true =>
    have HB1 := Lib.hid b1
    cases b2 : (u1 == u2) with
    | false =>
      have HB := Lib.hid b2
      go_enter Try.func62, Try.ntmps62
      go_wp2_with fail
      go_ret
      exact ⟨ret_bool (by rw [HE.out, HB1.out, HB.out]; rfl), HG.out⟩
    | true =>
      have HB2 := Lib.hid b2
      cases b3 : (n1.toList == n2.toList) with
      | false =>
        have HB := Lib.hid b3
        go_enter Try.func62, Try.ntmps62
        go_wp2_with fail
        go_ret
        exact ⟨ret_bool (by rw [HE.out, HB1.out, HB2.out, HB.out]; rfl), HG.out⟩
      | true =>
        have HB3 := Lib.hid b3
        cases b4 : (t1.toList == t2.toList) with
        | false =>
          have HB := Lib.hid b4
          go_enter Try.func62, Try.ntmps62
          go_wp2_with fail
          go_ret
          exact ⟨ret_bool (by rw [HE.out, HB1.out, HB2.out, HB3.out, HB.out]; rfl), HG.out⟩
        | true =>
          have HB := Lib.hid b4
          go_enter Try.func62, Try.ntmps62
          go_wp2_with fail
          refine HC.out.mono ?_
          rintro e w1 ⟨rfl, g1⟩
          go_wp2_with fail
          go_ret
          exact ⟨ret_bool (by rw [HE.out, HB1.out, HB2.out, HB3.out, HB.out]; simp), HG.out.trans g1⟩
set_option maxRecDepth 100000 in
set_option maxHeartbeats 1000000 in
theorem requal_any (A B : Option Addr) (c d : Nat) (a b : Lab) (w : World) (ha : LabAt w A c a) (hb : LabAt w B d b) (hla : a.ext.length ≤ 100000) (hlb : b.ext.length ≤ 100000) :
    Calls Try.prog 19 #[.agg #[.int .i64 a.id, .int .i64 a.unit, .string a.name, .string a.note, .slice A a.ext.length c], .agg #[.int .i64 b.id, .int .i64 b.unit, .string b.name, .string b.note, .slice B b.ext.length d]] w fun e w' => e = .returned (.bool (eqL a b)) ∧ Grew w w' := by
  obtain ⟨i1, u1, n1, t1, e1⟩ := a
  obtain ⟨i2, u2, n2, t2, e2⟩ := b
  have ra := ha.runs
  have rb := hb.runs
  simp only at ra rb hla hlb
  have ga := ((Grew.refl w).alloc (.cells #[.int .i64 i1, .int .i64 u1, .string n1, .string t1, .slice A e1.length c] 24)).alloc (.cells #[.int .i64 i2, .int .i64 u2, .string n2, .string t2, .slice B e2.length d] 24)
  have HC := Lib.hid (same_any A B c d e1 e2 _ w.heap.size ga.size (by omega) (by omega) (ra.keep (Nat.le_refl _) ga) (rb.keep (Nat.le_refl _) ga))
  have HE := Lib.hid (show eqL ⟨i1, u1, n1, t1, e1⟩ ⟨i2, u2, n2, t2, e2⟩ = ((i1 == i2) && ((u1 == u2) && ((n1.toList == n2.toList) && ((t1.toList == t2.toList) && decide (e1 = e2))))) from rfl)
  have HG := Lib.hid ga
  clear ha hb ra rb ga
  cases b1 : (i1 == i2) with
  | false =>
    have HB := Lib.hid b1
    go_enter Try.func19, Try.ntmps19
    go_wp2_with fail
    go_ret
    exact ⟨ret_bool (by rw [HE.out, HB.out]; rfl), HG.out⟩
  | true =>
    have HB1 := Lib.hid b1
    cases b2 : (u1 == u2) with
    | false =>
      have HB := Lib.hid b2
      go_enter Try.func19, Try.ntmps19
      go_wp2_with fail
      go_ret
      exact ⟨ret_bool (by rw [HE.out, HB1.out, HB.out]; rfl), HG.out⟩
    | true =>
      have HB2 := Lib.hid b2
      cases b3 : (n1.toList == n2.toList) with
      | false =>
        have HB := Lib.hid b3
        go_enter Try.func19, Try.ntmps19
        go_wp2_with fail
        go_ret
        exact ⟨ret_bool (by rw [HE.out, HB1.out, HB2.out, HB.out]; rfl), HG.out⟩
      | true =>
        have HB3 := Lib.hid b3
        cases b4 : (t1.toList == t2.toList) with
        | false =>
          have HB := Lib.hid b4
          go_enter Try.func19, Try.ntmps19
          go_wp2_with fail
          go_ret
          exact ⟨ret_bool (by rw [HE.out, HB1.out, HB2.out, HB3.out, HB.out]; rfl), HG.out⟩
        | true =>
          have HB := Lib.hid b4
          go_enter Try.func19, Try.ntmps19
          go_wp2_with fail
          refine HC.out.mono ?_
          rintro e w1 ⟨rfl, g1⟩
          go_wp2_with fail
          go_ret
          exact ⟨ret_bool (by rw [HE.out, HB1.out, HB2.out, HB3.out, HB.out]; simp), HG.out.trans g1⟩
end Go.Proofs.Ytnlaogneceanoaa
namespace Go.Proofs.Ytnlaogneceanoaa
set_option linter.unusedVariables false
set_option linter.unusedSimpArgs false
set_option linter.unusedSectionVars false
open Go.RowKit
section
variable {P : Program} {ops : Array Oper} {Q : Exit → Act → World → Prop} {md : Region.Mode} {A : Nat → Bool} {S : World → Prop}
/-- What is listed has come up behind all that it waits for. -/
def Down (md : Region.Mode) (ops : Array Oper) (listed : Array Bool) : Prop :=
  ∀ j oj, ops[j]? = some oj → listed.getD j true = true → ∀ e ∈ oj.after, Region.binds md e = true → listed.getD e.on false = true
theorem Down.step {listed : Array Bool} (h : Down md ops listed) {j : Nat} (hj : j ∈ Region.ready md ops listed) : Down md ops (listed.setIfInBounds j true) := by
  intro k ok hk hl e he hb
  by_cases hjk : j = k
  · subst hjk
    obtain ⟨_, oj, hoj, hall⟩ := mem_ready.1 hj
    rw [hoj] at hk
    injection hk with hk
    subst hk
    exact getD_set_true (hall e he hb)
  · rw [getD_set_ne true hjk] at hl
    exact getD_set_true (h k ok hk hl e he hb)
/-- 'late' names operations that wait for i, at once or through one another. -/
def Late (md : Region.Mode) (ops : Array Oper) (i : Nat) (late : Nat → Bool) : Prop :=
  ∀ j oj, ops[j]? = some oj → late j = true → ∃ e ∈ oj.after, Region.binds md e = true ∧ (e.on = i ∨ (late e.on = true ∧ e.on < j ∧ e.on < ops.size))
theorem Late.unlisted {i : Nat} {late : Nat → Bool} (h : Late md ops i late) {listed : Array Bool} (hd : Down md ops listed) (hi : listed.getD i false = false) : ∀ j, j < ops.size → late j = true → listed.getD j true = false := by
  intro j
  induction j using Nat.strongRecOn with
  | ind j ih =>
    intro hj hl
    obtain ⟨e, he, hb, hor⟩ := h j ops[j] (Array.getElem?_eq_getElem hj) hl
    cases hlj : listed.getD j true with
    | false => rfl
    | true =>
      have h1 := hd j ops[j] (Array.getElem?_eq_getElem hj) hlj e he hb
      rcases hor with h2 | ⟨h2, h3, h4⟩
      · rw [h2, hi] at h1; cases h1
      · have h5 := ih e.on h3 h4 h2
        rcases Nat.lt_or_ge e.on listed.size with h6 | h6
        · simp [h6] at h1 h5; rw [h1] at h5; cases h5
        · simp [Array.getElem?_eq_none h6] at h1
/-- The side conditions, to be reckoned. -/
def downB (md : Region.Mode) (ops : Array Oper) (listed : Array Bool) : Bool :=
  (List.range ops.size).all fun j => !listed.getD j true || (match ops[j]? with | some o => o.after.all (fun e => !Region.binds md e || listed.getD e.on false) | none => true)
theorem downB_spec {listed : Array Bool} (h : downB md ops listed = true) : Down md ops listed := by
  intro j oj hj hl e he hb
  have hlt := (Array.getElem?_eq_some_iff.1 hj).1
  have h1 := List.all_eq_true.1 h j (List.mem_range.2 hlt)
  simp only [hl, hj, Bool.not_true, Bool.false_or] at h1
  have h2 := (Array.all_eq_true_iff_forall_mem.1 h1) e he
  simpa [hb] using h2
def lateB (md : Region.Mode) (ops : Array Oper) (i : Nat) (late : Nat → Bool) : Bool :=
  (List.range ops.size).all fun j => !late j || (match ops[j]? with | some o => o.after.any (fun e => Region.binds md e && (e.on == i || (late e.on && decide (e.on < j) && decide (e.on < ops.size)))) | none => true)
theorem lateB_spec {i : Nat} {late : Nat → Bool} (h : lateB md ops i late = true) : Late md ops i late := by
  intro j oj hj hl
  have hlt := (Array.getElem?_eq_some_iff.1 hj).1
  have h1 := List.all_eq_true.1 h j (List.mem_range.2 hlt)
  simp only [hl, hj, Bool.not_true, Bool.false_or] at h1
  obtain ⟨e, he, h2⟩ := Array.any_eq_true'.1 h1
  simp only [Bool.and_eq_true, Bool.or_eq_true, beq_iff_eq, decide_eq_true_eq] at h2
  exact ⟨e, he, h2.1, h2.2.imp id (fun h => ⟨h.1.1, h.1.2, h.2⟩)⟩
end
end Go.Proofs.Ytnlaogneceanoaa
namespace Go.Proofs.Ytnlaogneceanoaa
set_option linter.unusedVariables false
set_option linter.unusedSimpArgs false
set_option linter.unusedSectionVars false
open Go.RowKit
section
variable {P : Program} {ops : Array Oper} {Q : Exit → Act → World → Prop} {md : Region.Mode} {A : Nat → Bool} {S : World → Prop}
def wpAnyR (P : Program) (md : Region.Mode) (ops : Array Oper) (Q : Exit → Act → World → Prop) (A : Nat → Bool) (S : World → Prop) : Nat → Array Bool → Act → World → Prop
  | 0, listed, a, w => Region.ready md ops listed = [] ∧ Q .normal a w
  | fuel + 1, listed, a, w =>
    (Region.ready md ops listed = [] → Q .normal a w) ∧
    ∀ i ∈ Region.ready md ops listed, wpOp P ops Q i (fun a' w' => (A i = true ∨ (S w → S w')) ∧ wpAnyR P md ops Q A S fuel (listed.setIfInBounds i true) a' w') a w
theorem wpAny_of_R : ∀ (fuel : Nat) (listed : Array Bool) (a : Act) (w : World), wpAnyR P md ops Q A S fuel listed a w → wpAny P md ops Q fuel listed a w
  | 0, _, _, _, h => h
  | fuel + 1, _, _, _, h => ⟨h.1, fun i hi => wpOp_mono (fun a' w' h' => wpAny_of_R fuel _ a' w' h'.2) (h.2 i hi)⟩
theorem wpAnyR_first {i : Nat} {oi : Oper} {v : Value} {late : Nat → Bool} (hi : ops[i]? = some oi) (hsel : ∀ (j : Nat) (o : Oper) cs b, ops[j]? = some o → o.op ≠ .select cs b)
    (hlate : Late md ops i late) (hA : ∀ j, A j = true → late j = true) (hAi : A i = false)
    (hQ : ∀ c a w, Q (.panic c) (a.put oi.dst v) w → Q (.panic c) a w) :
    ∀ (fuel : Nat) (listed : Array Bool) (a : Act) (w : World), Down md ops listed →
      (∀ j oj, ops[j]? = some oj → j ≠ i → listed.getD j true = false → (∀ e ∈ oj.after, Region.binds md e = true → e.on ≠ i) → oi.apart ops oj = true) →
      i ∈ Region.ready md ops listed → YieldsIf P ops S oi v a → S w →
      wpAnyR P md ops Q A S fuel (listed.setIfInBounds i true) (a.put oi.dst v) w → wpAnyR P md ops Q A S (fuel + 1) listed a w := by
  intro fuel
  have hii : i < ops.size := (Array.getElem?_eq_some_iff.1 hi).1
  have key : ∀ (listed : Array Bool), Down md ops listed → i ∈ Region.ready md ops listed → ∀ j, j ∈ Region.ready md ops listed → j ≠ i → A j = false := by
    intro listed hd hr j hj hji
    cases hAj : A j with
    | false => rfl
    | true =>
      exfalso
      have hl := hA j hAj
      obtain ⟨hjun, oj, hoj, hall⟩ := mem_ready.1 hj
      obtain ⟨e, he, hb, hor⟩ := hlate j oj hoj hl
      have h1 := hall e he hb
      have h0 := (mem_ready.1 hr).1
      have hi0 : listed.getD i false = false := by
        rcases Nat.lt_or_ge i listed.size with h' | h'
        · simp [h'] at h0 ⊢; exact h0
        · simp [Array.getElem?_eq_none h']
      rcases hor with h2 | ⟨h2, h3, h4⟩
      · rw [h2, hi0] at h1; cases h1
      · have h5 := hlate.unlisted hd hi0 e.on h4 h2
        rcases Nat.lt_or_ge e.on listed.size with h6 | h6
        · simp [h6] at h1 h5; rw [h1] at h5; cases h5
        · simp [Array.getElem?_eq_none h6] at h1
  induction fuel with
  | zero =>
    intro listed a w hd _ hr hy hS H
    refine ⟨fun h => (by rw [h] at hr; cases hr), fun j hj => ?_⟩
    by_cases hji : j = i
    · subst hji; exact hy.wpOp hi hS ⟨.inr (fun h => h), H⟩
    · have := ready_mono hj hji
      rw [H.1] at this
      cases this
  | succ fuel ih =>
    intro listed a w hd hfree hr hy hS H
    refine ⟨fun h => (by rw [h] at hr; cases hr), fun j hj => ?_⟩
    by_cases hji : j = i
    · subst hji; exact hy.wpOp hi hS ⟨.inr (fun h => h), H⟩
    · have h1 := H.2 j (ready_mono hj hji)
      have hAj := key listed hd hr j hj hji
      obtain ⟨hjun, oj, hoj, hall⟩ := mem_ready.1 hj
      have hnot : ∀ e ∈ oj.after, Region.binds md e = true → e.on ≠ i := fun e he hb heq => by
        have h1 := hall e he hb
        have h0 := (mem_ready.1 hr).1
        rw [heq] at h1
        rcases Nat.lt_or_ge i listed.size with h' | h'
        · simp [h'] at h0 h1; rw [h0] at h1; cases h1
        · simp [Array.getElem?_eq_none h'] at h1
      have h2 := wpOp_putIf hoj (hfree j oj hoj hji hjun hnot) (fun cs b => hsel i oi cs b hi) (fun cs b => hsel j oj cs b hoj) hQ hy h1
      have hfree' : ∀ k ok, ops[k]? = some ok → k ≠ i → (listed.setIfInBounds j true).getD k true = false →
          (∀ e ∈ ok.after, Region.binds md e = true → e.on ≠ i) → oi.apart ops ok = true := fun k ok hk hki hun hno => by
        refine hfree k ok hk hki ?_ hno
        by_cases hjk : j = k
        · subst hjk; exact hjun
        · rw [getD_set_ne true hjk] at hun; exact hun
      refine wpOp_mono (fun a' w' h3 => ?_) h2
      have hS' : S w' := h3.2.1.resolve_left (by rw [hAj]; simp) hS
      refine ⟨h3.2.1, ih (listed.setIfInBounds j true) a' w' (hd.step hj) hfree' (ready_mono hr (Ne.symm hji)) h3.1 hS' ?_⟩
      rw [Array.setIfInBounds_comm _ _ hji]
      exact h3.2.2
theorem wpAnyR_firstQ {i : Nat} {oi : Oper} {v : Value} (hi : ops[i]? = some oi) (hsel : ∀ (j : Nat) (o : Oper) cs b, ops[j]? = some o → o.op ≠ .select cs b)
    (hQ : ∀ c a w, Q (.panic c) (a.put oi.dst v) w → Q (.panic c) a w) :
    ∀ (fuel : Nat) (listed : Array Bool) (a : Act) (w : World), Down md ops listed →
      (∀ j oj, ops[j]? = some oj → j ≠ i → listed.getD j true = false → (∀ e ∈ oj.after, Region.binds md e = true → e.on ≠ i) → oi.apart ops oj = true) →
      i ∈ Region.ready md ops listed → YieldsIf P ops (fun _ => True) oi v a →
      wpAnyR P md ops Q A S fuel (listed.setIfInBounds i true) (a.put oi.dst v) w → wpAnyR P md ops Q A S (fuel + 1) listed a w := by
  intro fuel
  induction fuel with
  | zero =>
    intro listed a w hd _ hr hy H
    refine ⟨fun h => (by rw [h] at hr; cases hr), fun j hj => ?_⟩
    by_cases hji : j = i
    · subst hji; exact hy.wpOp hi trivial ⟨.inr (fun h => h), H⟩
    · have := ready_mono hj hji
      rw [H.1] at this
      cases this
  | succ fuel ih =>
    intro listed a w hd hfree hr hy H
    refine ⟨fun h => (by rw [h] at hr; cases hr), fun j hj => ?_⟩
    by_cases hji : j = i
    · subst hji; exact hy.wpOp hi trivial ⟨.inr (fun h => h), H⟩
    · have h1 := H.2 j (ready_mono hj hji)
      obtain ⟨hjun, oj, hoj, hall⟩ := mem_ready.1 hj
      have hnot : ∀ e ∈ oj.after, Region.binds md e = true → e.on ≠ i := fun e he hb heq => by
        have h1 := hall e he hb
        have h0 := (mem_ready.1 hr).1
        rw [heq] at h1
        rcases Nat.lt_or_ge i listed.size with h' | h'
        · simp [h'] at h0 h1; rw [h0] at h1; cases h1
        · simp [Array.getElem?_eq_none h'] at h1
      have h2 := wpOp_putIf hoj (hfree j oj hoj hji hjun hnot) (fun cs b => hsel i oi cs b hi) (fun cs b => hsel j oj cs b hoj) hQ hy h1
      have hfree' : ∀ k ok, ops[k]? = some ok → k ≠ i → (listed.setIfInBounds j true).getD k true = false →
          (∀ e ∈ ok.after, Region.binds md e = true → e.on ≠ i) → oi.apart ops ok = true := fun k ok hk hki hun hno => by
        refine hfree k ok hk hki ?_ hno
        by_cases hjk : j = k
        · subst hjk; exact hjun
        · rw [getD_set_ne true hjk] at hun; exact hun
      refine wpOp_mono (fun a' w' h3 => ?_) h2
      refine ⟨h3.2.1, ih (listed.setIfInBounds j true) a' w' (hd.step hj) hfree' (ready_mono hr (Ne.symm hji)) h3.1 ?_⟩
      rw [Array.setIfInBounds_comm _ _ hji]
      exact h3.2.2
theorem wpAnyR_take {i : Nat} {oi : Oper} {v : Value} {fuel : Nat} {listed : Array Bool} {a : Act} {w : World} {al : List Nat} (late : List Nat) (d : Option Tmp) (hi : ops[i]? = some oi) (hdst : oi.dst = d)
    (hs : Region.noSelect ops = true) (hd : downB md ops listed = true) (hl : lateB md ops i late.contains = true) (hA : al.all late.contains = true) (hAi : al.contains i = false)
    (hf : Region.free md ops listed i = true) (hr : (Region.ready md ops listed).contains i = true)
    (hQ : ∀ c a w, Q (.panic c) (a.put oi.dst v) w → Q (.panic c) a w) (hy : YieldsIf P ops S oi v a) (hS : S w)
    (h : wpAnyR P md ops Q al.contains S fuel (listed.setIfInBounds i true) (a.put d v) w) : wpAnyR P md ops Q al.contains S (fuel + 1) listed a w := by
  subst hdst
  exact wpAnyR_first hi (Region.noSelect_spec hs) (lateB_spec hl) (fun j hj => List.all_eq_true.1 hA j (by simpa using hj)) hAi hQ fuel listed a w (downB_spec hd) (Region.free_spec hi hf) (by simpa using hr) hy hS h
theorem wpAnyR_takeQ {i : Nat} {oi : Oper} {v : Value} {fuel : Nat} {listed : Array Bool} {a : Act} {w : World} {al : List Nat} (d : Option Tmp) (hi : ops[i]? = some oi) (hdst : oi.dst = d)
    (hs : Region.noSelect ops = true) (hd : downB md ops listed = true)
    (hf : Region.free md ops listed i = true) (hr : (Region.ready md ops listed).contains i = true)
    (hQ : ∀ c a w, Q (.panic c) (a.put oi.dst v) w → Q (.panic c) a w) (hy : YieldsIf P ops (fun _ => True) oi v a)
    (h : wpAnyR P md ops Q al.contains S fuel (listed.setIfInBounds i true) (a.put d v) w) : wpAnyR P md ops Q al.contains S (fuel + 1) listed a w := by
  subst hdst
  exact wpAnyR_firstQ hi (Region.noSelect_spec hs) hQ fuel listed a w (downB_spec hd) (Region.free_spec hi hf) (by simpa using hr) hy h
theorem wpAnyR_n1 {i : Nat} {oi : Oper} {fuel : Nat} {listed : Array Bool} {a : Act} {w : World} {al : List Nat} (hoi : ops[i]? = some oi) (hr : Region.ready md ops listed = [i])
    (gi : (∀ K' : Act → World → Prop, Shut (∀ a' w', (al.contains i = true ∨ (S w → S w')) → wpAnyR P md ops Q al.contains S fuel (listed.setIfInBounds i true) a' w' → K' a' w') → if Region.wanted oi (yielded ops a.tmps) = true then Oper.wp P oi a w K' Q else K' (a.put oi.dst undef) w))
    : wpAnyR P md ops Q al.contains S (fuel + 1) listed a w :=
  ⟨fun h0 => absurd (hr ▸ h0) (by simp), fun x hx => (by
    rw [hr] at hx
    rw [List.mem_singleton.1 hx]
    exact wpOp_step hoi (fun K' hK => gi K' (fun a' w' hS hW => hK a' w' ⟨hS, hW⟩)))⟩
theorem wpAnyR_done {listed : Array Bool} {a : Act} {w : World} {al : List Nat} (hr : Region.ready md ops listed = []) (h : Q .normal a w) : ∀ fuel, wpAnyR P md ops Q al.contains S fuel listed a w
  | 0 => ⟨hr, h⟩
  | _ + 1 => ⟨fun _ => h, by rw [hr]; simp⟩
theorem wp_region_R {id : Nat} {a : Act} {w : World} (al : List Nat) (S : World → Prop) (hm : P.follows .mixedOrders = true)
    (h : wpAnyR P .any ops Q al.contains S ops.size (Array.replicate ops.size false) a w.drew) : (Code.region id ops true).wp P Q a w :=
  wp_region_any hm (wpAny_of_R _ _ _ _ h)
end
end Go.Proofs.Ytnlaogneceanoaa
