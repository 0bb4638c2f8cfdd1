/- awake: the example of the chapter holds. -/
import Derived.Test.YtikifikophefdaaExtL
namespace Go.Proofs.Ytikifikophefdaa
set_option linter.unusedVariables false
set_option linter.unusedSimpArgs false
set_option linter.unusedSectionVars false
open Go.RowKit
instance (r : Int × Int) : Decidable (okRun r) := by unfold okRun; infer_instance
theorem listAt_blk {w : World} {g : Nat} {t : TypeId} {l : List Int} (h : Blk w g t (l.map fun n => Value.int .i64 n).toArray) : ListAt w w.heap.size 1 (some ⟨g, 0, none⟩) (l.map intC) := by
  intro _
  refine ⟨g, 0, rfl, h.lt, fun j cs hj i v hi => ?_⟩
  rw [List.getElem?_map] at hj
  cases hq : l[j]? with
  | none => rw [hq] at hj; cases hj
  | some n =>
    rw [hq] at hj
    injection hj with hj
    subst hj
    match i, hi with
    | 0, hi =>
      injection hi with hi
      subst hi
      rw [h.cell]
      simp [hq]
    | i + 1, hi => simp [intC] at hi
theorem mkruns_blk (l : List (Int × Int)) (w : World) (g : Nat) (t : TypeId) (n : Nat) (hb : Blk w g t ((flatR l).map fun n => Value.int .i64 n).toArray) (hn : n = 2 * l.length) (hl : l.length ≤ 1000000) (hok : ∀ r ∈ l, okRun r) :
    Calls Try.prog 33 #[.slice (some ⟨g, 0, none⟩) n n] w fun e w' => ∃ A c, e = .returned (.slice A l.length c) ∧ RunsAt w' w'.heap.size A l ∧ Grew w w' := by
  refine (mkruns_any _ n n l w w.heap.size (Nat.le_refl _) hn hl (listAt_blk hb)).mono ?_
  rintro e w' ⟨v, rfl, hown, hg⟩
  obtain ⟨A, c, rfl, hr⟩ := own_runsI hown hok
  exact ⟨A, c, rfl, hr, hg⟩
theorem at_val (A : Option Addr) (c n : Nat) (l : List (Int × Int)) (w : World) (hn : n = l.length) (hl : l.length ≤ 1000000) (hr : RunsAt w w.heap.size A l) (t : Int) (t0 : -9223372036854775808 ≤ t) (t1 : t ≤ 9223372036854775807) (a : Int) (b : Bool)
    (h : (if t < 0 then (0, false) else atS l t) = (a, b)) : Calls Try.prog 19 #[.slice A n c, .int .i64 t] w fun e w' => e = .returned (.tuple #[.int .i64 a, .bool b]) ∧ Grew w w' := by
  subst hn
  have := at_any A c l w w.heap.size (Nat.le_refl _) hl hr t t0 t1
  rw [h] at this
  exact this
theorem RunsAt.hold {w w' : World} {A : Option Addr} {l : List (Int × Int)} (h : RunsAt w w.heap.size A l) (hg : Grew w w') : RunsAt w' w'.heap.size A l :=
  ⟨h.1, (h.2.keep (Nat.le_refl _) hg).mono hg.size⟩
theorem normal_val (A : Option Addr) (c n : Nat) (l : List (Int × Int)) (w : World) (hn : n = l.length) (hl : l.length ≤ 1000000) (hr : RunsAt w w.heap.size A l) (k : List (Int × Int)) (hk : ints (normS (memS l)) = k) :
    Calls Try.prog 18 #[.slice A n c] w fun e w' => ∃ A c, e = .returned (.slice A k.length c) ∧ RunsAt w' w'.heap.size A k ∧ Grew w w' := by
  subst hn
  subst hk
  refine (normal_any A c l w w.heap.size (Nat.le_refl _) hl hr).mono ?_
  rintro e w1 ⟨v, rfl, hown, g1⟩
  obtain ⟨A', c', hv, hr'⟩ := own_runs hown (fun r hr => Nat.le_trans (normTo_bd _ _ r hr) (by omega))
  exact ⟨A', c', by rw [hv], hr', g1⟩
theorem join_val (A : Option Addr) (c n : Nat) (l : List (Int × Int)) (w : World) (hn : n = l.length) (hl : l.length ≤ 1000000) (hr : RunsAt w w.heap.size A l) (k : List (Int × Int)) (hk : ints (joinS l) = k) :
    Calls Try.prog 14 #[.slice A n c] w fun e w' => ∃ A c, e = .returned (.slice A k.length c) ∧ RunsAt w' w'.heap.size A k ∧ Grew w w' := by
  subst hn
  subst hk
  refine (join_any A c l w w.heap.size (Nat.le_refl _) hl hr).mono ?_
  rintro e w1 ⟨v, rfl, hown, g1⟩
  obtain ⟨A', c', hv, hr'⟩ := own_runs hown (fun r hr => Nat.le_trans (joinS_bd _ r hr) (by omega))
  exact ⟨A', c', by rw [hv], hr', g1⟩
theorem same_val (A1 A2 : Option Addr) (c1 c2 n1 n2 : Nat) (l1 l2 : List (Int × Int)) (w : World) (hn1 : n1 = l1.length) (hn2 : n2 = l2.length) (hl1 : l1.length ≤ 1000000) (hl2 : l2.length ≤ 1000000) (hr1 : RunsAt w w.heap.size A1 l1) (hr2 : RunsAt w w.heap.size A2 l2) (b : Bool) (hb : decide (l1 = l2) = b) :
    Calls Try.prog 13 #[.slice A1 n1 c1, .slice A2 n2 c2] w fun e w' => e = .returned (.bool b) ∧ Grew w w' := by
  subst hn1; subst hn2; subst hb
  exact same_any A1 A2 c1 c2 l1 l2 w w.heap.size (Nat.le_refl _) hl1 hl2 hr1 hr2
def aw1 : List (Int × Int) := [(5, 2), (7, 1), (3, 2)]
def aw2 : List (Int × Int) := [(5, 2), (3, 2), (9, 1), (-1, 2)]
def aw3 : List (Int × Int) := [(0, 1), (3, 4), (9, 1)]
def aw4 : List (Int × Int) := [(5, 3), (3, 2)]
set_option maxRecDepth 100000 in
theorem aw_at : (if (3 : Int) < 0 then (0, false) else atS aw1 3) = (3, true) := by decide +kernel
set_option maxRecDepth 100000 in
theorem aw_normal : ints (normS (memS aw2)) = aw3 := by decide +kernel
set_option maxRecDepth 100000 in
theorem aw_join : ints (joinS aw1) = aw4 := by decide +kernel
set_option maxRecDepth 100000 in
set_option maxHeartbeats 4000000 in
theorem awake_any (w : World) : Calls Try.prog 10 #[] w fun e w' => e = .returned (.bool true) ∧ Grew w w' := by
  go_enter Try.func10, Try.ntmps10
  go_wp2_with fail
  refine (mkruns_blk aw1 _ w.heap.size 3 6 (Blk.new w _ _ rfl) rfl (by decide) (by decide)).mono ?_
  rintro e w1 ⟨A1, c1, rfl, r1, g1⟩
  have hg1 : Grew w w1 := by (repeat' first | (with_reducible exact Grew.refl _) | (with_reducible assumption) | (with_reducible refine Grew.alloc ?_ _) | (with_reducible refine Grew.drew ?_) | (with_reducible refine Grew.drewN ?_ _) | (with_reducible refine Grew.setRow ?_ (by first | (simp; done) | (simp; omega) | omega) _) | (with_reducible refine Grew.setCell ?_ (by first | (simp; done) | (simp; omega) | omega) _) | ((with_reducible apply Grew.trans); rotate_left; (with_reducible assumption)) | ((with_reducible apply Grew.turn); rotate_left; (with_reducible assumption); (focus (intro i hi; first | omega | (simp at hi; omega)))) | fail)
  clear g1
  go_wp2_with fail
  refine (at_val A1 c1 _ aw1 w1 rfl (by decide) r1 3 (by omega) (by omega) 3 true aw_at).mono ?_
  rintro e w2 ⟨rfl, g2⟩
  have hg2 := hg1.trans g2
  clear r1 hg1 g2
  go_wp2_with fail
  refine (mkruns_blk aw2 _ w2.heap.size 3 8 (Blk.new w2 _ _ rfl) rfl (by decide) (by decide)).mono ?_
  rintro e w3 ⟨A3, c3, rfl, r3, g3⟩
  have hg3 : Grew w w3 := by (repeat' first | (with_reducible exact Grew.refl _) | (with_reducible assumption) | (with_reducible refine Grew.alloc ?_ _) | (with_reducible refine Grew.drew ?_) | (with_reducible refine Grew.drewN ?_ _) | (with_reducible refine Grew.setRow ?_ (by first | (simp; done) | (simp; omega) | omega) _) | (with_reducible refine Grew.setCell ?_ (by first | (simp; done) | (simp; omega) | omega) _) | ((with_reducible apply Grew.trans); rotate_left; (with_reducible assumption)) | ((with_reducible apply Grew.turn); rotate_left; (with_reducible assumption); (focus (intro i hi; first | omega | (simp at hi; omega)))) | fail)
  clear hg2 g3
  go_wp2_with fail
  refine (normal_val A3 c3 _ aw2 w3 rfl (by decide) r3 aw3 aw_normal).mono ?_
  rintro e w4 ⟨A4, c4, rfl, r4, g4⟩
  have hg4 := hg3.trans g4
  clear hg3 r3 g4
  go_wp2_with fail
  refine (mkruns_blk aw3 _ w4.heap.size 3 6 (Blk.new w4 _ _ rfl) rfl (by decide) (by decide)).mono ?_
  rintro e w5 ⟨A5, c5, rfl, r5, g5⟩
  have r4' := r4.hold ((Grew.refl w4).alloc _ |>.trans g5)
  have hg5 : Grew w w5 := by (repeat' first | (with_reducible exact Grew.refl _) | (with_reducible assumption) | (with_reducible refine Grew.alloc ?_ _) | (with_reducible refine Grew.drew ?_) | (with_reducible refine Grew.drewN ?_ _) | (with_reducible refine Grew.setRow ?_ (by first | (simp; done) | (simp; omega) | omega) _) | (with_reducible refine Grew.setCell ?_ (by first | (simp; done) | (simp; omega) | omega) _) | ((with_reducible apply Grew.trans); rotate_left; (with_reducible assumption)) | ((with_reducible apply Grew.turn); rotate_left; (with_reducible assumption); (focus (intro i hi; first | omega | (simp at hi; omega)))) | fail)
  clear hg4 r4 g5
  go_wp2_with fail
  refine (same_val A4 A5 c4 c5 _ _ aw3 aw3 w5 rfl rfl (by decide) (by decide) r4' r5 true (by decide)).mono ?_
  rintro e w6 ⟨rfl, g6⟩
  have hg6 := hg5.trans g6
  clear hg5 r4' r5 g6
  go_wp2_with fail
  refine (mkruns_blk aw1 _ w6.heap.size 3 6 (Blk.new w6 _ _ rfl) rfl (by decide) (by decide)).mono ?_
  rintro e w7 ⟨A7, c7, rfl, r7, g7⟩
  have hg7 : Grew w w7 := by (repeat' first | (with_reducible exact Grew.refl _) | (with_reducible assumption) | (with_reducible refine Grew.alloc ?_ _) | (with_reducible refine Grew.drew ?_) | (with_reducible refine Grew.drewN ?_ _) | (with_reducible refine Grew.setRow ?_ (by first | (simp; done) | (simp; omega) | omega) _) | (with_reducible refine Grew.setCell ?_ (by first | (simp; done) | (simp; omega) | omega) _) | ((with_reducible apply Grew.trans); rotate_left; (with_reducible assumption)) | ((with_reducible apply Grew.turn); rotate_left; (with_reducible assumption); (focus (intro i hi; first | omega | (simp at hi; omega)))) | fail)
  clear hg6 g7
  go_wp2_with fail
  refine (join_val A7 c7 _ aw1 w7 rfl (by decide) r7 aw4 aw_join).mono ?_
  rintro e w8 ⟨A8, c8, rfl, r8, g8⟩
  have hg8 := hg7.trans g8
  clear hg7 r7 g8
  go_wp2_with fail
  refine (mkruns_blk aw4 _ w8.heap.size 3 4 (Blk.new w8 _ _ rfl) rfl (by decide) (by decide)).mono ?_
  rintro e w9 ⟨A9, c9, rfl, r9, g9⟩
  have r8' := r8.hold ((Grew.refl w8).alloc _ |>.trans g9)
  have hg9 : Grew w w9 := by (repeat' first | (with_reducible exact Grew.refl _) | (with_reducible assumption) | (with_reducible refine Grew.alloc ?_ _) | (with_reducible refine Grew.drew ?_) | (with_reducible refine Grew.drewN ?_ _) | (with_reducible refine Grew.setRow ?_ (by first | (simp; done) | (simp; omega) | omega) _) | (with_reducible refine Grew.setCell ?_ (by first | (simp; done) | (simp; omega) | omega) _) | ((with_reducible apply Grew.trans); rotate_left; (with_reducible assumption)) | ((with_reducible apply Grew.turn); rotate_left; (with_reducible assumption); (focus (intro i hi; first | omega | (simp at hi; omega)))) | fail)
  clear hg8 r8 g9
  go_wp2_with fail
  refine (same_val A8 A9 c8 c9 _ _ aw4 aw4 w9 rfl rfl (by decide) (by decide) r8' r9 true (by decide)).mono ?_
  rintro e w10 ⟨rfl, g10⟩
  go_wp2_with fail
  go_ret
  exact ⟨rfl, hg9.trans g10⟩
end Go.Proofs.Ytikifikophefdaa
