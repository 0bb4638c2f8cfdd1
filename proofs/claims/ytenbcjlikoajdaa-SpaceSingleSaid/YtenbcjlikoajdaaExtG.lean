/- mix: two sets by a table. -/
import Derived.Test.YtenbcjlikoajdaaExtF
import Derived.Deep.RegionHeld3
import Derived.Deep.RegionWith
namespace Go.Proofs.Ytenbcjlikoajdaa
set_option linter.unusedVariables false
set_option linter.unusedSimpArgs false
set_option linter.unusedSectionVars false
open Go.RowKit
set_option maxRecDepth 100000 in
theorem bit_any (b : Bool) (w : World) : Calls Try.prog 60 #[.bool b] w fun e w' => e = .returned (.int .i64 (if b then 1 else 0)) ∧ w = w' := by
  cases b
  all_goals
    go_enter Try.func60, Try.ntmps60
    go_wp2
    go_ret
    exact ⟨rfl, rfl⟩
theorem mix_step (k i : Nat) (r : Bool) (F : Nat → Bool) (h : F k = r) : (if i = k then r else if i < k then F i else false) = (if i < k + 1 then F i else false) := by
  by_cases hi : i = k
  · subst hi; rw [if_pos rfl, if_pos (by omega), h]
  · rw [if_neg hi]
    by_cases hk : i < k
    · rw [if_pos hk, if_pos (by omega)]
    · rw [if_neg hk, if_neg (by omega)]
def tbS (t : Bool × Bool × Bool × Bool) (x y : Bool) : Bool := if x then (if y then t.2.2.2 else t.2.2.1) else (if y then t.2.1 else t.1)
set_option maxRecDepth 100000 in
set_option maxHeartbeats 4000000 in
theorem mix_any (A1 A2 : Option Addr) (c1 c2 : Nat) (l1 l2 : List (Int × Int)) (t : Bool × Bool × Bool × Bool) (w : World) (B : Nat) (hB : B ≤ w.heap.size) (hl1 : l1.length ≤ 1000000) (hl2 : l2.length ≤ 1000000) (hr1 : RunsAt w B A1 l1) (hr2 : RunsAt w B A2 l2) :
    Calls Try.prog 49 #[.slice A1 l1.length c1, .slice A2 l2.length c2, .agg #[.bool t.1, .bool t.2.1, .bool t.2.2.1, .bool t.2.2.2]] w fun e w' => ∃ v, e = .returned v ∧ OwnL w' w.heap.size 25 2 v ((normS fun i => tbS t (memS l1 i) (memS l2 i)).map rowN) ∧ Grew w w' := by
  have hz := zero_set
  obtain ⟨t0, t1, t2, t3⟩ := t
  go_enter Try.func49, Try.ntmps49
  go_wp2_with fail
  refine (of_any A1 c1 l1 _ B (by simp; omega) (by omega) (hr1.keep hB (by (repeat' first | (with_reducible exact Grew.refl _) | (with_reducible assumption) | (with_reducible refine Grew.alloc ?_ _) | (with_reducible refine Grew.drew ?_) | (with_reducible refine Grew.drewN ?_ _) | (with_reducible refine Grew.setRow ?_ (by first | (simp; done) | (simp; omega) | omega) _) | (with_reducible refine Grew.setCell ?_ (by first | (simp; done) | (simp; omega) | omega) _) | ((with_reducible apply Grew.trans); rotate_left; (with_reducible assumption)) | ((with_reducible apply Grew.turn); rotate_left; (with_reducible assumption); (focus (intro i hi; first | omega | (simp at hi; omega)))) | fail)))).mono ?_
  rintro e w1 ⟨rfl, g1⟩
  have hg1 : Grew w w1 := by (repeat' first | (with_reducible exact Grew.refl _) | (with_reducible assumption) | (with_reducible refine Grew.alloc ?_ _) | (with_reducible refine Grew.drew ?_) | (with_reducible refine Grew.drewN ?_ _) | (with_reducible refine Grew.setRow ?_ (by first | (simp; done) | (simp; omega) | omega) _) | (with_reducible refine Grew.setCell ?_ (by first | (simp; done) | (simp; omega) | omega) _) | ((with_reducible apply Grew.trans); rotate_left; (with_reducible assumption)) | ((with_reducible apply Grew.turn); rotate_left; (with_reducible assumption); (focus (intro i hi; first | omega | (simp at hi; omega)))) | fail)
  have ht1 : Blk w1 w.heap.size 60 #[.bool t0, .bool t1, .bool t2, .bool t3] := (Blk.new w _ _ rfl).grew g1
  clear g1
  go_wp2_with fail
  refine (of_any A2 c2 l2 w1 B (Nat.le_trans hB hg1.size) (by omega) (hr2.keep hB hg1)).mono ?_
  rintro e w2 ⟨rfl, g2⟩
  have hg2 : Grew w w2 := hg1.trans g2
  have ht2 := ht1.grew g2
  have hws := hg2.size
  clear hg1 ht1 g2
  have hbx : Blk ((w2.alloc (.cells (boolArr fun _ => false) 64)).alloc (.cells (boolArr fun _ => false) 64)) w2.heap.size 64 (boolArr fun _ => false) := by (apply Blk.conv; (· (repeat' first | (with_reducible assumption) | (with_reducible apply Blk.setRow) | ((with_reducible apply Blk.farRow); rotate_left; (focus (first | (simp; done) | (simp; omega) | omega))) | (with_reducible apply Blk.drew) | (with_reducible apply Blk.drewN) | (with_reducible apply Blk.set_) | (with_reducible exact Blk.new _ _ _ (by first | rfl | (simp; done) | (simp; omega))) | (with_reducible apply Blk.alloc) | ((with_reducible apply Blk.far); rotate_left; (focus (first | (simp; done) | (simp; omega) | omega))) | ((with_reducible apply Blk.grew); rotate_left; (with_reducible assumption)) | ((with_reducible apply Blk.turned); rotate_left; (with_reducible assumption); (focus (first | (simp; done) | (simp; omega) | omega))) | fail)); (· rfl))
  have hby : Blk (((w2.alloc (.cells (boolArr fun _ => false) 64)).alloc (.cells (boolArr fun _ => false) 64)).setRow w2.heap.size (boolArr (memS l1))) (w2.heap.size + 1) 64 (boolArr fun _ => false) := by (apply Blk.conv; (· (repeat' first | (with_reducible assumption) | (with_reducible apply Blk.setRow) | ((with_reducible apply Blk.farRow); rotate_left; (focus (first | (simp; done) | (simp; omega) | omega))) | (with_reducible apply Blk.drew) | (with_reducible apply Blk.drewN) | (with_reducible apply Blk.set_) | (with_reducible exact Blk.new _ _ _ (by first | rfl | (simp; done) | (simp; omega))) | (with_reducible apply Blk.alloc) | ((with_reducible apply Blk.far); rotate_left; (focus (first | (simp; done) | (simp; omega) | omega))) | ((with_reducible apply Blk.grew); rotate_left; (with_reducible assumption)) | ((with_reducible apply Blk.turned); rotate_left; (with_reducible assumption); (focus (first | (simp; done) | (simp; omega) | omega))) | fail)); (· rfl))
  go_wp2_with (first | (refine wpList_store_blk rfl 64 _ _ rfl w2.heap.size (boolArr (memS l1)) rfl rfl 64 _ hbx (by rw [boolArr_size, boolArr_size]) (by rw [boolArr_size]; exact info_set) (boolArr_one _) ?_) | (refine wpList_store_blk rfl 64 _ _ rfl (w2.heap.size + 1) (boolArr (memS l2)) rfl rfl 64 _ hby (by rw [boolArr_size, boolArr_size]) (by rw [boolArr_size]; exact info_set) (boolArr_one _) ?_))
  have htx := ((((ht2.alloc (.cells (boolArr fun _ => false) 64)).alloc (.cells (boolArr fun _ => false) 64)).farRow (g' := w2.heap.size) (by have := ht2.lt; omega) (boolArr (memS l1))).farRow (g' := w2.heap.size + 1) (by have := ht2.lt; omega) (boolArr (memS l2))).alloc (.cells (boolArr fun _ => false) 64)
  have hgx : w.heap.size < w2.heap.size := ht2.lt
  go_loopg [16] 128 (fun gk i wr => ∃ k : Nat, k ≤ 128 ∧ gk = 128 - k ∧ i = .int .i64 k ∧ Blk wr w.heap.size 60 #[.bool t0, .bool t1, .bool t2, .bool t3] ∧ Blk wr w2.heap.size 64 (boolArr (memS l1)) ∧ Blk wr (w2.heap.size + 1) 64 (boolArr (memS l2)) ∧ Blk wr (w2.heap.size + 1 + 1) 64 (boolArr fun i => if i < k then tbS (t0, t1, t2, t3) (memS l1 i) (memS l2 i) else false) ∧ Grew w wr)
  case atStart => exact ⟨0, by omega, by omega, rfl, htx, by (apply Blk.conv; (· (repeat' first | (with_reducible assumption) | (with_reducible apply Blk.setRow) | ((with_reducible apply Blk.farRow); rotate_left; (focus (first | (simp; done) | (simp; omega) | omega))) | (with_reducible apply Blk.drew) | (with_reducible apply Blk.drewN) | (with_reducible apply Blk.set_) | (with_reducible exact Blk.new _ _ _ (by first | rfl | (simp; done) | (simp; omega))) | (with_reducible apply Blk.alloc) | ((with_reducible apply Blk.far); rotate_left; (focus (first | (simp; done) | (simp; omega) | omega))) | ((with_reducible apply Blk.grew); rotate_left; (with_reducible assumption)) | ((with_reducible apply Blk.turned); rotate_left; (with_reducible assumption); (focus (first | (simp; done) | (simp; omega) | omega))) | fail)); (· rfl)), by (apply Blk.conv; (· (repeat' first | (with_reducible assumption) | (with_reducible apply Blk.setRow) | ((with_reducible apply Blk.farRow); rotate_left; (focus (first | (simp; done) | (simp; omega) | omega))) | (with_reducible apply Blk.drew) | (with_reducible apply Blk.drewN) | (with_reducible apply Blk.set_) | (with_reducible exact Blk.new _ _ _ (by first | rfl | (simp; done) | (simp; omega))) | (with_reducible apply Blk.alloc) | ((with_reducible apply Blk.far); rotate_left; (focus (first | (simp; done) | (simp; omega) | omega))) | ((with_reducible apply Blk.grew); rotate_left; (with_reducible assumption)) | ((with_reducible apply Blk.turned); rotate_left; (with_reducible assumption); (focus (first | (simp; done) | (simp; omega) | omega))) | fail)); (· rfl)), by (apply Blk.conv; (· (repeat' first | (with_reducible assumption) | (with_reducible apply Blk.setRow) | ((with_reducible apply Blk.farRow); rotate_left; (focus (first | (simp; done) | (simp; omega) | omega))) | (with_reducible apply Blk.drew) | (with_reducible apply Blk.drewN) | (with_reducible apply Blk.set_) | (with_reducible exact Blk.new _ _ _ (by first | rfl | (simp; done) | (simp; omega))) | (with_reducible apply Blk.alloc) | ((with_reducible apply Blk.far); rotate_left; (focus (first | (simp; done) | (simp; omega) | omega))) | ((with_reducible apply Blk.grew); rotate_left; (with_reducible assumption)) | ((with_reducible apply Blk.turned); rotate_left; (with_reducible assumption); (focus (first | (simp; done) | (simp; omega) | omega))) | fail)); (· rfl)), by (repeat' first | (with_reducible exact Grew.refl _) | (with_reducible assumption) | (with_reducible refine Grew.alloc ?_ _) | (with_reducible refine Grew.drew ?_) | (with_reducible refine Grew.drewN ?_ _) | (with_reducible refine Grew.setRow ?_ (by first | (simp; done) | (simp; omega) | omega) _) | (with_reducible refine Grew.setCell ?_ (by first | (simp; done) | (simp; omega) | omega) _) | ((with_reducible apply Grew.trans); rotate_left; (with_reducible assumption)) | ((with_reducible apply Grew.turn); rotate_left; (with_reducible assumption); (focus (intro i hi; first | omega | (simp at hi; omega)))) | fail)⟩
  case round =>
    clear htx hbx hby ht2 hg2
    obtain ⟨k, hk, hgk, rfl, hbt, hbx, hby, hbs, hg⟩ := hrel
    have HGK := Lib.hid hgk
    clear hgk
    have hzs := hbs.lt
    by_cases hlt : k < 128
    · have cx := hbx.cell k
      rw [boolArr_get _ _ hlt] at cx
      have cy := hby.cell k
      rw [boolArr_get _ _ hlt] at cy
      have cs := hbs.cell k
      rw [boolArr_get _ _ hlt] at cs
      have fs := hbs.frozen k
      have q0 := hbt.cell 0
      have q1 := hbt.cell 1
      have q2 := hbt.cell 2
      have q3 := hbt.cell 3
      have hn1 : ¬ w.heap.size = w2.heap.size + 1 + 1 := by omega
      have hn2 : ¬ w2.heap.size + 1 + 1 = w.heap.size := by omega
      have hks : ∀ v, (wr.setCell ⟨w2.heap.size + 1 + 1, k, none⟩ v).cell? ⟨w2.heap.size, k, none⟩ = wr.cell? ⟨w2.heap.size, k, none⟩ := fun v => World.cell?_setCell_other _ _ _ _ (fun e => by injection e; omega)
      have hkn : (0 : Int) ≤ (k : Int) := by omega
      have hkn2 : (k : Int) < 128 := by omega
      rcases hX : memS l1 k with _ | _ <;> rcases hY : memS l2 k with _ | _
      · rw [hX] at cx
        rw [hY] at cy
        have HX := Lib.hid hX
        have HY := Lib.hid hY
        clear hX hY
        go_wp2_with fail
        go_region_held3 (fun w' => w'.cell? ⟨w2.heap.size, k, none⟩ = some (.bool false) ∧ w'.cell? ⟨w2.heap.size + 1, k, none⟩ = some (.bool false) ∧ w'.cell? ⟨w.heap.size, 0, none⟩ = some (.bool t0) ∧ w'.cell? ⟨w.heap.size, 1, none⟩ = some (.bool t1) ∧ w'.cell? ⟨w.heap.size, 2, none⟩ = some (.bool t2) ∧ w'.cell? ⟨w.heap.size, 3, none⟩ = some (.bool t3)) (go_keep) (first | (go_at_call 60; refine (bit_any _ _).mono ?_; rintro e w' ⟨rfl, rfl⟩))
        go_wp2_with fail
        go_roundg (128 - (k + 1))
        case measure => rw [HGK.out]; omega
        case rel => exact ⟨k + 1, by omega, by omega, by go_num, by (apply Blk.conv; (· (repeat' first | (with_reducible assumption) | (with_reducible apply Blk.setRow) | ((with_reducible apply Blk.farRow); rotate_left; (focus (first | (simp; done) | (simp; omega) | omega))) | (with_reducible apply Blk.drew) | (with_reducible apply Blk.drewN) | (with_reducible apply Blk.set_) | (with_reducible exact Blk.new _ _ _ (by first | rfl | (simp; done) | (simp; omega))) | (with_reducible apply Blk.alloc) | ((with_reducible apply Blk.far); rotate_left; (focus (first | (simp; done) | (simp; omega) | omega))) | ((with_reducible apply Blk.grew); rotate_left; (with_reducible assumption)) | ((with_reducible apply Blk.turned); rotate_left; (with_reducible assumption); (focus (first | (simp; done) | (simp; omega) | omega))) | fail)); (· rfl)), by (apply Blk.conv; (· (repeat' first | (with_reducible assumption) | (with_reducible apply Blk.setRow) | ((with_reducible apply Blk.farRow); rotate_left; (focus (first | (simp; done) | (simp; omega) | omega))) | (with_reducible apply Blk.drew) | (with_reducible apply Blk.drewN) | (with_reducible apply Blk.set_) | (with_reducible exact Blk.new _ _ _ (by first | rfl | (simp; done) | (simp; omega))) | (with_reducible apply Blk.alloc) | ((with_reducible apply Blk.far); rotate_left; (focus (first | (simp; done) | (simp; omega) | omega))) | ((with_reducible apply Blk.grew); rotate_left; (with_reducible assumption)) | ((with_reducible apply Blk.turned); rotate_left; (with_reducible assumption); (focus (first | (simp; done) | (simp; omega) | omega))) | fail)); (· rfl)), by (apply Blk.conv; (· (repeat' first | (with_reducible assumption) | (with_reducible apply Blk.setRow) | ((with_reducible apply Blk.farRow); rotate_left; (focus (first | (simp; done) | (simp; omega) | omega))) | (with_reducible apply Blk.drew) | (with_reducible apply Blk.drewN) | (with_reducible apply Blk.set_) | (with_reducible exact Blk.new _ _ _ (by first | rfl | (simp; done) | (simp; omega))) | (with_reducible apply Blk.alloc) | ((with_reducible apply Blk.far); rotate_left; (focus (first | (simp; done) | (simp; omega) | omega))) | ((with_reducible apply Blk.grew); rotate_left; (with_reducible assumption)) | ((with_reducible apply Blk.turned); rotate_left; (with_reducible assumption); (focus (first | (simp; done) | (simp; omega) | omega))) | fail)); (· rfl)), by (apply Blk.conv; (· (repeat' first | (with_reducible assumption) | (with_reducible apply Blk.setRow) | ((with_reducible apply Blk.farRow); rotate_left; (focus (first | (simp; done) | (simp; omega) | omega))) | (with_reducible apply Blk.drew) | (with_reducible apply Blk.drewN) | (with_reducible apply Blk.set_) | (with_reducible exact Blk.new _ _ _ (by first | rfl | (simp; done) | (simp; omega))) | (with_reducible apply Blk.alloc) | ((with_reducible apply Blk.far); rotate_left; (focus (first | (simp; done) | (simp; omega) | omega))) | ((with_reducible apply Blk.grew); rotate_left; (with_reducible assumption)) | ((with_reducible apply Blk.turned); rotate_left; (with_reducible assumption); (focus (first | (simp; done) | (simp; omega) | omega))) | fail)); (· rw [boolArr_set]; exact boolArr_congr fun i _ => mix_step k i t0 (fun i => tbS (t0, t1, t2, t3) (memS l1 i) (memS l2 i)) (by show tbS _ (memS l1 k) (memS l2 k) = _; rw [HX.out, HY.out]; rfl))), by (repeat' first | (with_reducible exact Grew.refl _) | (with_reducible assumption) | (with_reducible refine Grew.alloc ?_ _) | (with_reducible refine Grew.drew ?_) | (with_reducible refine Grew.drewN ?_ _) | (with_reducible refine Grew.setRow ?_ (by first | (simp; done) | (simp; omega) | omega) _) | (with_reducible refine Grew.setCell ?_ (by first | (simp; done) | (simp; omega) | omega) _) | ((with_reducible apply Grew.trans); rotate_left; (with_reducible assumption)) | ((with_reducible apply Grew.turn); rotate_left; (with_reducible assumption); (focus (intro i hi; first | omega | (simp at hi; omega)))) | fail)⟩
      · rw [hX] at cx
        rw [hY] at cy
        have HX := Lib.hid hX
        have HY := Lib.hid hY
        clear hX hY
        go_wp2_with fail
        go_region_held3 (fun w' => w'.cell? ⟨w2.heap.size, k, none⟩ = some (.bool false) ∧ w'.cell? ⟨w2.heap.size + 1, k, none⟩ = some (.bool true) ∧ w'.cell? ⟨w.heap.size, 0, none⟩ = some (.bool t0) ∧ w'.cell? ⟨w.heap.size, 1, none⟩ = some (.bool t1) ∧ w'.cell? ⟨w.heap.size, 2, none⟩ = some (.bool t2) ∧ w'.cell? ⟨w.heap.size, 3, none⟩ = some (.bool t3)) (go_keep) (first | (go_at_call 60; refine (bit_any _ _).mono ?_; rintro e w' ⟨rfl, rfl⟩))
        go_wp2_with fail
        go_roundg (128 - (k + 1))
        case measure => rw [HGK.out]; omega
        case rel => exact ⟨k + 1, by omega, by omega, by go_num, by (apply Blk.conv; (· (repeat' first | (with_reducible assumption) | (with_reducible apply Blk.setRow) | ((with_reducible apply Blk.farRow); rotate_left; (focus (first | (simp; done) | (simp; omega) | omega))) | (with_reducible apply Blk.drew) | (with_reducible apply Blk.drewN) | (with_reducible apply Blk.set_) | (with_reducible exact Blk.new _ _ _ (by first | rfl | (simp; done) | (simp; omega))) | (with_reducible apply Blk.alloc) | ((with_reducible apply Blk.far); rotate_left; (focus (first | (simp; done) | (simp; omega) | omega))) | ((with_reducible apply Blk.grew); rotate_left; (with_reducible assumption)) | ((with_reducible apply Blk.turned); rotate_left; (with_reducible assumption); (focus (first | (simp; done) | (simp; omega) | omega))) | fail)); (· rfl)), by (apply Blk.conv; (· (repeat' first | (with_reducible assumption) | (with_reducible apply Blk.setRow) | ((with_reducible apply Blk.farRow); rotate_left; (focus (first | (simp; done) | (simp; omega) | omega))) | (with_reducible apply Blk.drew) | (with_reducible apply Blk.drewN) | (with_reducible apply Blk.set_) | (with_reducible exact Blk.new _ _ _ (by first | rfl | (simp; done) | (simp; omega))) | (with_reducible apply Blk.alloc) | ((with_reducible apply Blk.far); rotate_left; (focus (first | (simp; done) | (simp; omega) | omega))) | ((with_reducible apply Blk.grew); rotate_left; (with_reducible assumption)) | ((with_reducible apply Blk.turned); rotate_left; (with_reducible assumption); (focus (first | (simp; done) | (simp; omega) | omega))) | fail)); (· rfl)), by (apply Blk.conv; (· (repeat' first | (with_reducible assumption) | (with_reducible apply Blk.setRow) | ((with_reducible apply Blk.farRow); rotate_left; (focus (first | (simp; done) | (simp; omega) | omega))) | (with_reducible apply Blk.drew) | (with_reducible apply Blk.drewN) | (with_reducible apply Blk.set_) | (with_reducible exact Blk.new _ _ _ (by first | rfl | (simp; done) | (simp; omega))) | (with_reducible apply Blk.alloc) | ((with_reducible apply Blk.far); rotate_left; (focus (first | (simp; done) | (simp; omega) | omega))) | ((with_reducible apply Blk.grew); rotate_left; (with_reducible assumption)) | ((with_reducible apply Blk.turned); rotate_left; (with_reducible assumption); (focus (first | (simp; done) | (simp; omega) | omega))) | fail)); (· rfl)), by (apply Blk.conv; (· (repeat' first | (with_reducible assumption) | (with_reducible apply Blk.setRow) | ((with_reducible apply Blk.farRow); rotate_left; (focus (first | (simp; done) | (simp; omega) | omega))) | (with_reducible apply Blk.drew) | (with_reducible apply Blk.drewN) | (with_reducible apply Blk.set_) | (with_reducible exact Blk.new _ _ _ (by first | rfl | (simp; done) | (simp; omega))) | (with_reducible apply Blk.alloc) | ((with_reducible apply Blk.far); rotate_left; (focus (first | (simp; done) | (simp; omega) | omega))) | ((with_reducible apply Blk.grew); rotate_left; (with_reducible assumption)) | ((with_reducible apply Blk.turned); rotate_left; (with_reducible assumption); (focus (first | (simp; done) | (simp; omega) | omega))) | fail)); (· rw [boolArr_set]; exact boolArr_congr fun i _ => mix_step k i t1 (fun i => tbS (t0, t1, t2, t3) (memS l1 i) (memS l2 i)) (by show tbS _ (memS l1 k) (memS l2 k) = _; rw [HX.out, HY.out]; rfl))), by (repeat' first | (with_reducible exact Grew.refl _) | (with_reducible assumption) | (with_reducible refine Grew.alloc ?_ _) | (with_reducible refine Grew.drew ?_) | (with_reducible refine Grew.drewN ?_ _) | (with_reducible refine Grew.setRow ?_ (by first | (simp; done) | (simp; omega) | omega) _) | (with_reducible refine Grew.setCell ?_ (by first | (simp; done) | (simp; omega) | omega) _) | ((with_reducible apply Grew.trans); rotate_left; (with_reducible assumption)) | ((with_reducible apply Grew.turn); rotate_left; (with_reducible assumption); (focus (intro i hi; first | omega | (simp at hi; omega)))) | fail)⟩
      · rw [hX] at cx
        rw [hY] at cy
        have HX := Lib.hid hX
        have HY := Lib.hid hY
        clear hX hY
        go_wp2_with fail
        go_region_held3 (fun w' => w'.cell? ⟨w2.heap.size, k, none⟩ = some (.bool true) ∧ w'.cell? ⟨w2.heap.size + 1, k, none⟩ = some (.bool false) ∧ w'.cell? ⟨w.heap.size, 0, none⟩ = some (.bool t0) ∧ w'.cell? ⟨w.heap.size, 1, none⟩ = some (.bool t1) ∧ w'.cell? ⟨w.heap.size, 2, none⟩ = some (.bool t2) ∧ w'.cell? ⟨w.heap.size, 3, none⟩ = some (.bool t3)) (go_keep) (first | (go_at_call 60; refine (bit_any _ _).mono ?_; rintro e w' ⟨rfl, rfl⟩))
        go_wp2_with fail
        go_roundg (128 - (k + 1))
        case measure => rw [HGK.out]; omega
        case rel => exact ⟨k + 1, by omega, by omega, by go_num, by (apply Blk.conv; (· (repeat' first | (with_reducible assumption) | (with_reducible apply Blk.setRow) | ((with_reducible apply Blk.farRow); rotate_left; (focus (first | (simp; done) | (simp; omega) | omega))) | (with_reducible apply Blk.drew) | (with_reducible apply Blk.drewN) | (with_reducible apply Blk.set_) | (with_reducible exact Blk.new _ _ _ (by first | rfl | (simp; done) | (simp; omega))) | (with_reducible apply Blk.alloc) | ((with_reducible apply Blk.far); rotate_left; (focus (first | (simp; done) | (simp; omega) | omega))) | ((with_reducible apply Blk.grew); rotate_left; (with_reducible assumption)) | ((with_reducible apply Blk.turned); rotate_left; (with_reducible assumption); (focus (first | (simp; done) | (simp; omega) | omega))) | fail)); (· rfl)), by (apply Blk.conv; (· (repeat' first | (with_reducible assumption) | (with_reducible apply Blk.setRow) | ((with_reducible apply Blk.farRow); rotate_left; (focus (first | (simp; done) | (simp; omega) | omega))) | (with_reducible apply Blk.drew) | (with_reducible apply Blk.drewN) | (with_reducible apply Blk.set_) | (with_reducible exact Blk.new _ _ _ (by first | rfl | (simp; done) | (simp; omega))) | (with_reducible apply Blk.alloc) | ((with_reducible apply Blk.far); rotate_left; (focus (first | (simp; done) | (simp; omega) | omega))) | ((with_reducible apply Blk.grew); rotate_left; (with_reducible assumption)) | ((with_reducible apply Blk.turned); rotate_left; (with_reducible assumption); (focus (first | (simp; done) | (simp; omega) | omega))) | fail)); (· rfl)), by (apply Blk.conv; (· (repeat' first | (with_reducible assumption) | (with_reducible apply Blk.setRow) | ((with_reducible apply Blk.farRow); rotate_left; (focus (first | (simp; done) | (simp; omega) | omega))) | (with_reducible apply Blk.drew) | (with_reducible apply Blk.drewN) | (with_reducible apply Blk.set_) | (with_reducible exact Blk.new _ _ _ (by first | rfl | (simp; done) | (simp; omega))) | (with_reducible apply Blk.alloc) | ((with_reducible apply Blk.far); rotate_left; (focus (first | (simp; done) | (simp; omega) | omega))) | ((with_reducible apply Blk.grew); rotate_left; (with_reducible assumption)) | ((with_reducible apply Blk.turned); rotate_left; (with_reducible assumption); (focus (first | (simp; done) | (simp; omega) | omega))) | fail)); (· rfl)), by (apply Blk.conv; (· (repeat' first | (with_reducible assumption) | (with_reducible apply Blk.setRow) | ((with_reducible apply Blk.farRow); rotate_left; (focus (first | (simp; done) | (simp; omega) | omega))) | (with_reducible apply Blk.drew) | (with_reducible apply Blk.drewN) | (with_reducible apply Blk.set_) | (with_reducible exact Blk.new _ _ _ (by first | rfl | (simp; done) | (simp; omega))) | (with_reducible apply Blk.alloc) | ((with_reducible apply Blk.far); rotate_left; (focus (first | (simp; done) | (simp; omega) | omega))) | ((with_reducible apply Blk.grew); rotate_left; (with_reducible assumption)) | ((with_reducible apply Blk.turned); rotate_left; (with_reducible assumption); (focus (first | (simp; done) | (simp; omega) | omega))) | fail)); (· rw [boolArr_set]; exact boolArr_congr fun i _ => mix_step k i t2 (fun i => tbS (t0, t1, t2, t3) (memS l1 i) (memS l2 i)) (by show tbS _ (memS l1 k) (memS l2 k) = _; rw [HX.out, HY.out]; rfl))), by (repeat' first | (with_reducible exact Grew.refl _) | (with_reducible assumption) | (with_reducible refine Grew.alloc ?_ _) | (with_reducible refine Grew.drew ?_) | (with_reducible refine Grew.drewN ?_ _) | (with_reducible refine Grew.setRow ?_ (by first | (simp; done) | (simp; omega) | omega) _) | (with_reducible refine Grew.setCell ?_ (by first | (simp; done) | (simp; omega) | omega) _) | ((with_reducible apply Grew.trans); rotate_left; (with_reducible assumption)) | ((with_reducible apply Grew.turn); rotate_left; (with_reducible assumption); (focus (intro i hi; first | omega | (simp at hi; omega)))) | fail)⟩
      · rw [hX] at cx
        rw [hY] at cy
        have HX := Lib.hid hX
        have HY := Lib.hid hY
        clear hX hY
        go_wp2_with fail
        go_region_held3 (fun w' => w'.cell? ⟨w2.heap.size, k, none⟩ = some (.bool true) ∧ w'.cell? ⟨w2.heap.size + 1, k, none⟩ = some (.bool true) ∧ w'.cell? ⟨w.heap.size, 0, none⟩ = some (.bool t0) ∧ w'.cell? ⟨w.heap.size, 1, none⟩ = some (.bool t1) ∧ w'.cell? ⟨w.heap.size, 2, none⟩ = some (.bool t2) ∧ w'.cell? ⟨w.heap.size, 3, none⟩ = some (.bool t3)) (go_keep) (first | (go_at_call 60; refine (bit_any _ _).mono ?_; rintro e w' ⟨rfl, rfl⟩))
        go_wp2_with fail
        go_roundg (128 - (k + 1))
        case measure => rw [HGK.out]; omega
        case rel => exact ⟨k + 1, by omega, by omega, by go_num, by (apply Blk.conv; (· (repeat' first | (with_reducible assumption) | (with_reducible apply Blk.setRow) | ((with_reducible apply Blk.farRow); rotate_left; (focus (first | (simp; done) | (simp; omega) | omega))) | (with_reducible apply Blk.drew) | (with_reducible apply Blk.drewN) | (with_reducible apply Blk.set_) | (with_reducible exact Blk.new _ _ _ (by first | rfl | (simp; done) | (simp; omega))) | (with_reducible apply Blk.alloc) | ((with_reducible apply Blk.far); rotate_left; (focus (first | (simp; done) | (simp; omega) | omega))) | ((with_reducible apply Blk.grew); rotate_left; (with_reducible assumption)) | ((with_reducible apply Blk.turned); rotate_left; (with_reducible assumption); (focus (first | (simp; done) | (simp; omega) | omega))) | fail)); (· rfl)), by (apply Blk.conv; (· (repeat' first | (with_reducible assumption) | (with_reducible apply Blk.setRow) | ((with_reducible apply Blk.farRow); rotate_left; (focus (first | (simp; done) | (simp; omega) | omega))) | (with_reducible apply Blk.drew) | (with_reducible apply Blk.drewN) | (with_reducible apply Blk.set_) | (with_reducible exact Blk.new _ _ _ (by first | rfl | (simp; done) | (simp; omega))) | (with_reducible apply Blk.alloc) | ((with_reducible apply Blk.far); rotate_left; (focus (first | (simp; done) | (simp; omega) | omega))) | ((with_reducible apply Blk.grew); rotate_left; (with_reducible assumption)) | ((with_reducible apply Blk.turned); rotate_left; (with_reducible assumption); (focus (first | (simp; done) | (simp; omega) | omega))) | fail)); (· rfl)), by (apply Blk.conv; (· (repeat' first | (with_reducible assumption) | (with_reducible apply Blk.setRow) | ((with_reducible apply Blk.farRow); rotate_left; (focus (first | (simp; done) | (simp; omega) | omega))) | (with_reducible apply Blk.drew) | (with_reducible apply Blk.drewN) | (with_reducible apply Blk.set_) | (with_reducible exact Blk.new _ _ _ (by first | rfl | (simp; done) | (simp; omega))) | (with_reducible apply Blk.alloc) | ((with_reducible apply Blk.far); rotate_left; (focus (first | (simp; done) | (simp; omega) | omega))) | ((with_reducible apply Blk.grew); rotate_left; (with_reducible assumption)) | ((with_reducible apply Blk.turned); rotate_left; (with_reducible assumption); (focus (first | (simp; done) | (simp; omega) | omega))) | fail)); (· rfl)), by (apply Blk.conv; (· (repeat' first | (with_reducible assumption) | (with_reducible apply Blk.setRow) | ((with_reducible apply Blk.farRow); rotate_left; (focus (first | (simp; done) | (simp; omega) | omega))) | (with_reducible apply Blk.drew) | (with_reducible apply Blk.drewN) | (with_reducible apply Blk.set_) | (with_reducible exact Blk.new _ _ _ (by first | rfl | (simp; done) | (simp; omega))) | (with_reducible apply Blk.alloc) | ((with_reducible apply Blk.far); rotate_left; (focus (first | (simp; done) | (simp; omega) | omega))) | ((with_reducible apply Blk.grew); rotate_left; (with_reducible assumption)) | ((with_reducible apply Blk.turned); rotate_left; (with_reducible assumption); (focus (first | (simp; done) | (simp; omega) | omega))) | fail)); (· rw [boolArr_set]; exact boolArr_congr fun i _ => mix_step k i t3 (fun i => tbS (t0, t1, t2, t3) (memS l1 i) (memS l2 i)) (by show tbS _ (memS l1 k) (memS l2 k) = _; rw [HX.out, HY.out]; rfl))), by (repeat' first | (with_reducible exact Grew.refl _) | (with_reducible assumption) | (with_reducible refine Grew.alloc ?_ _) | (with_reducible refine Grew.drew ?_) | (with_reducible refine Grew.drewN ?_ _) | (with_reducible refine Grew.setRow ?_ (by first | (simp; done) | (simp; omega) | omega) _) | (with_reducible refine Grew.setCell ?_ (by first | (simp; done) | (simp; omega) | omega) _) | ((with_reducible apply Grew.trans); rotate_left; (with_reducible assumption)) | ((with_reducible apply Grew.turn); rotate_left; (with_reducible assumption); (focus (intro i hi; first | omega | (simp at hi; omega)))) | fail)⟩
    · obtain rfl : k = 128 := by omega
      have hbs' : Blk wr (w2.heap.size + 1 + 1) 64 (boolArr fun i => tbS (t0, t1, t2, t3) (memS l1 i) (memS l2 i)) := by (apply Blk.conv; (· (repeat' first | (with_reducible assumption) | (with_reducible apply Blk.setRow) | ((with_reducible apply Blk.farRow); rotate_left; (focus (first | (simp; done) | (simp; omega) | omega))) | (with_reducible apply Blk.drew) | (with_reducible apply Blk.drewN) | (with_reducible apply Blk.set_) | (with_reducible exact Blk.new _ _ _ (by first | rfl | (simp; done) | (simp; omega))) | (with_reducible apply Blk.alloc) | ((with_reducible apply Blk.far); rotate_left; (focus (first | (simp; done) | (simp; omega) | omega))) | ((with_reducible apply Blk.grew); rotate_left; (with_reducible assumption)) | ((with_reducible apply Blk.turned); rotate_left; (with_reducible assumption); (focus (first | (simp; done) | (simp; omega) | omega))) | fail)); (· exact boolArr_congr fun i hi => if_pos hi))
      go_wp2_with fail
      refine (runs_any (w2.heap.size + 1 + 1) _ wr hbs').mono ?_
      rintro e w3 ⟨v, rfl, hown, g3⟩
      go_wp2_with fail
      go_ret
      exact ⟨v, rfl, hown.mono hg.size, by (repeat' first | (with_reducible exact Grew.refl _) | (with_reducible assumption) | (with_reducible refine Grew.alloc ?_ _) | (with_reducible refine Grew.drew ?_) | (with_reducible refine Grew.drewN ?_ _) | (with_reducible refine Grew.setRow ?_ (by first | (simp; done) | (simp; omega) | omega) _) | (with_reducible refine Grew.setCell ?_ (by first | (simp; done) | (simp; omega) | omega) _) | ((with_reducible apply Grew.trans); rotate_left; (with_reducible assumption)) | ((with_reducible apply Grew.turn); rotate_left; (with_reducible assumption); (focus (intro i hi; first | omega | (simp at hi; omega)))) | fail)⟩
set_option maxRecDepth 100000 in
set_option maxHeartbeats 4000000 in
theorem union_any (A1 A2 : Option Addr) (c1 c2 : Nat) (l1 l2 : List (Int × Int)) (w : World) (B : Nat) (hB : B ≤ w.heap.size) (hl1 : l1.length ≤ 1000000) (hl2 : l2.length ≤ 1000000) (hr1 : RunsAt w B A1 l1) (hr2 : RunsAt w B A2 l2) :
    Calls Try.prog 29 #[.slice A1 l1.length c1, .slice A2 l2.length c2] w fun e w' => ∃ v, e = .returned v ∧ OwnL w' w.heap.size 25 2 v ((normS fun i => memS l1 i || memS l2 i).map rowN) ∧ Grew w w' := by
  have hC := mix_any A1 A2 c1 c2 l1 l2 (false, true, true, true) w B hB hl1 hl2 hr1 hr2
  have hf : (fun i => tbS (false, true, true, true) (memS l1 i) (memS l2 i)) = fun i => memS l1 i || memS l2 i := by
    funext i
    cases memS l1 i <;> cases memS l2 i <;> rfl
  rw [hf] at hC
  have HC := Lib.hid hC
  clear hC
  go_enter Try.func29, Try.ntmps29
  go_wp2_with fail
  refine HC.out.mono ?_
  rintro e w1 ⟨v, rfl, hown, g1⟩
  go_wp2_with fail
  go_ret
  exact ⟨v, rfl, hown, g1⟩
set_option maxRecDepth 100000 in
set_option maxHeartbeats 4000000 in
theorem common_any (A1 A2 : Option Addr) (c1 c2 : Nat) (l1 l2 : List (Int × Int)) (w : World) (B : Nat) (hB : B ≤ w.heap.size) (hl1 : l1.length ≤ 1000000) (hl2 : l2.length ≤ 1000000) (hr1 : RunsAt w B A1 l1) (hr2 : RunsAt w B A2 l2) :
    Calls Try.prog 27 #[.slice A1 l1.length c1, .slice A2 l2.length c2] w fun e w' => ∃ v, e = .returned v ∧ OwnL w' w.heap.size 25 2 v ((normS fun i => memS l1 i && memS l2 i).map rowN) ∧ Grew w w' := by
  have hC := mix_any A1 A2 c1 c2 l1 l2 (false, false, false, true) w B hB hl1 hl2 hr1 hr2
  have hf : (fun i => tbS (false, false, false, true) (memS l1 i) (memS l2 i)) = fun i => memS l1 i && memS l2 i := by
    funext i
    cases memS l1 i <;> cases memS l2 i <;> rfl
  rw [hf] at hC
  have HC := Lib.hid hC
  clear hC
  go_enter Try.func27, Try.ntmps27
  go_wp2_with fail
  refine HC.out.mono ?_
  rintro e w1 ⟨v, rfl, hown, g1⟩
  go_wp2_with fail
  go_ret
  exact ⟨v, rfl, hown, g1⟩
set_option maxRecDepth 100000 in
set_option maxHeartbeats 4000000 in
theorem minus_any (A1 A2 : Option Addr) (c1 c2 : Nat) (l1 l2 : List (Int × Int)) (w : World) (B : Nat) (hB : B ≤ w.heap.size) (hl1 : l1.length ≤ 1000000) (hl2 : l2.length ≤ 1000000) (hr1 : RunsAt w B A1 l1) (hr2 : RunsAt w B A2 l2) :
    Calls Try.prog 22 #[.slice A1 l1.length c1, .slice A2 l2.length c2] w fun e w' => ∃ v, e = .returned v ∧ OwnL w' w.heap.size 25 2 v ((normS fun i => memS l1 i && !memS l2 i).map rowN) ∧ Grew w w' := by
  have hC := mix_any A1 A2 c1 c2 l1 l2 (false, false, true, false) w B hB hl1 hl2 hr1 hr2
  have hf : (fun i => tbS (false, false, true, false) (memS l1 i) (memS l2 i)) = fun i => memS l1 i && !memS l2 i := by
    funext i
    cases memS l1 i <;> cases memS l2 i <;> rfl
  rw [hf] at hC
  have HC := Lib.hid hC
  clear hC
  go_enter Try.func22, Try.ntmps22
  go_wp2_with fail
  refine HC.out.mono ?_
  rintro e w1 ⟨v, rfl, hown, g1⟩
  go_wp2_with fail
  go_ret
  exact ⟨v, rfl, hown, g1⟩
end Go.Proofs.Ytenbcjlikoajdaa
