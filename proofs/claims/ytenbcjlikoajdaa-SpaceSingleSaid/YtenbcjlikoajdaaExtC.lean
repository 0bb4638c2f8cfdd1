/- of: the set of the tracks of runs. -/
import Derived.Test.YtenbcjlikoajdaaExtB
import Derived.Test.YtenbcjlikoajdaaRow
namespace Go.Proofs.Ytenbcjlikoajdaa
set_option linter.unusedVariables false
set_option linter.unusedSimpArgs false
set_option linter.unusedSectionVars false
open Go.RowKit
/-- Whether a track is in one of some runs. -/
def memS (l : List (Int × Int)) (t : Nat) : Bool := l.any fun r => inS (clipS r) t
theorem memS_snoc (l : List (Int × Int)) (k : Nat) (h : k < l.length) (t : Nat) : memS (l.take (k + 1)) t = (memS (l.take k) t || inS (clipS l[k]) t) := by
  unfold memS
  rw [List.take_succ_eq_append_getElem h, List.any_append]
  simp only [List.any_cons, List.any_nil, Bool.or_false]
def seg (lo n t : Nat) : Bool := decide (lo ≤ t ∧ t < lo + n)
theorem seg_step (x : Bool) (lo j i : Nat) : (if i = lo + j then true else (x || seg lo j i)) = (x || seg lo (j + 1) i) := by
  unfold seg
  by_cases h : i = lo + j
  · subst h
    rw [if_pos rfl, show decide (lo ≤ lo + j ∧ lo + j < lo + (j + 1)) = true from by simp, Bool.or_true]
  · rw [if_neg h]
    congr 1
    rw [decide_eq_decide]
    omega
theorem zero_set (w : World) : (zeroValue 64).run Try.prog w = .ok (.agg (boolArr fun _ => false)) w := by kernel_rfl
theorem info_set : (Try.prog.info? 64).map (·.size) = some 128 := by kernel_rfl
set_option maxRecDepth 100000 in
set_option maxHeartbeats 4000000 in
theorem of_any (A : Option Addr) (c : Nat) (l : List (Int × Int)) (w : World) (B : Nat) (hB : B ≤ w.heap.size) (hl : l.length ≤ 9223372036854775807) (hr : RunsAt w B A l) :
    Calls Try.prog 52 #[.slice A l.length c] w fun e w' => e = .returned (.agg (boolArr (memS l))) ∧ Grew w w' := by
  have HR := Lib.hid hr
  clear hr
  have hz := zero_set
  go_enter Try.func52, Try.ntmps52
  go_wp2_with fail
  clear hz
  go_loopg [9] l.length (fun gk i wr => ∃ k : Nat, k ≤ l.length ∧ gk = l.length - k ∧ i = .int .i64 k ∧ Blk wr w.heap.size 64 (boolArr fun _ => false) ∧ Blk wr (w.heap.size + 1) 64 (boolArr (memS (l.take k))) ∧ Grew w wr)
  case atStart => exact ⟨0, by omega, by omega, rfl, by (apply Blk.conv; (· (repeat' first | (with_reducible assumption) | (with_reducible apply Blk.setRow) | ((with_reducible apply Blk.farRow); rotate_left; (focus (first | (simp; done) | (simp; omega) | omega))) | (with_reducible apply Blk.drew) | (with_reducible apply Blk.drewN) | (with_reducible apply Blk.set_) | (with_reducible exact Blk.new _ _ _ (by first | rfl | (simp; done) | (simp; omega))) | (with_reducible apply Blk.alloc) | ((with_reducible apply Blk.far); rotate_left; (focus (first | (simp; done) | (simp; omega) | omega))) | ((with_reducible apply Blk.grew); rotate_left; (with_reducible assumption)) | ((with_reducible apply Blk.turned); rotate_left; (with_reducible assumption); (focus (first | (simp; done) | (simp; omega) | omega))) | fail)); (· rfl)), by (apply Blk.conv; (· (repeat' first | (with_reducible assumption) | (with_reducible apply Blk.setRow) | ((with_reducible apply Blk.farRow); rotate_left; (focus (first | (simp; done) | (simp; omega) | omega))) | (with_reducible apply Blk.drew) | (with_reducible apply Blk.drewN) | (with_reducible apply Blk.set_) | (with_reducible exact Blk.new _ _ _ (by first | rfl | (simp; done) | (simp; omega))) | (with_reducible apply Blk.alloc) | ((with_reducible apply Blk.far); rotate_left; (focus (first | (simp; done) | (simp; omega) | omega))) | ((with_reducible apply Blk.grew); rotate_left; (with_reducible assumption)) | ((with_reducible apply Blk.turned); rotate_left; (with_reducible assumption); (focus (first | (simp; done) | (simp; omega) | omega))) | fail)); (· rfl)), by (repeat' first | (with_reducible exact Grew.refl _) | (with_reducible assumption) | (with_reducible refine Grew.alloc ?_ _) | (with_reducible refine Grew.drew ?_) | (with_reducible refine Grew.drewN ?_ _) | (with_reducible refine Grew.setRow ?_ (by first | (simp; done) | (simp; omega) | omega) _) | (with_reducible refine Grew.setCell ?_ (by first | (simp; done) | (simp; omega) | omega) _) | ((with_reducible apply Grew.trans); rotate_left; (with_reducible assumption)) | ((with_reducible apply Grew.turn); rotate_left; (with_reducible assumption); (focus (intro i hi; first | omega | (simp at hi; omega)))) | fail)⟩
  case round =>
    obtain ⟨k, hk, hgk, rfl, hb0, hb1, hg⟩ := hrel
    have HGK := Lib.hid hgk
    clear hgk
    have hz0 := hb1.lt
    by_cases hlt : k < l.length
    · obtain ⟨b, off, f, c, rfl, hb, hlk, ⟨f0, f1, c0, c1⟩, x0, x1⟩ := (HR.out.keep hB hg).at_ hlt
      simp only at f0 f1 c0 c1
      have hbs : b < wr.heap.size := by have := hg.size; omega
      have HL := Lib.hid hlk
      have hle := clipS_le (f, c)
      have HN := Lib.hid (fun t => (memS_snoc l k hlt t).trans (by rw [hlk]))
      clear hlk
      go_wp2_with fail
      refine (clip_any f c _ f0 f1 c0 c1).mono ?_
      rintro e w1 ⟨rfl, g1⟩
      have hb0' := (hb0.alloc _).grew g1
      have hb1' := (hb1.alloc _).grew g1
      have hce := g1.cellEq
      have hfe := g1.frozenEq
      have hz1 : wr.heap.size < w1.heap.size := by have := g1.size; simp at this; omega
      have hr1 : Blk w1 wr.heap.size 25 #[.int .i64 f, .int .i64 c] := (Blk.new wr _ _ rfl).grew g1
      have hg1 : Grew w w1 := by (repeat' first | (with_reducible exact Grew.refl _) | (with_reducible assumption) | (with_reducible refine Grew.alloc ?_ _) | (with_reducible refine Grew.drew ?_) | (with_reducible refine Grew.drewN ?_ _) | (with_reducible refine Grew.setRow ?_ (by first | (simp; done) | (simp; omega) | omega) _) | (with_reducible refine Grew.setCell ?_ (by first | (simp; done) | (simp; omega) | omega) _) | ((with_reducible apply Grew.trans); rotate_left; (with_reducible assumption)) | ((with_reducible apply Grew.turn); rotate_left; (with_reducible assumption); (focus (intro i hi; first | omega | (simp at hi; omega)))) | fail)
      generalize hcl : clipS (f, c) = r at *
      obtain ⟨lo, n⟩ := r
      simp only at hle
      go_wp2_with fail
      go_loopg [17] n (fun gk2 i wx => ∃ j : Nat, j ≤ n ∧ gk2 = n - j ∧ i = .int .i64 j ∧ Blk wx w.heap.size 64 (boolArr fun _ => false) ∧ Blk wx (w.heap.size + 1) 64 (boolArr fun t => memS (l.take k) t || seg lo j t) ∧ Blk wx wr.heap.size 25 #[.int .i64 lo, .int .i64 n] ∧ Grew w wx)
      case atStart => exact ⟨0, by omega, by omega, rfl, by (apply Blk.conv; (· (repeat' first | (with_reducible assumption) | (with_reducible apply Blk.setRow) | ((with_reducible apply Blk.farRow); rotate_left; (focus (first | (simp; done) | (simp; omega) | omega))) | (with_reducible apply Blk.drew) | (with_reducible apply Blk.drewN) | (with_reducible apply Blk.set_) | (with_reducible exact Blk.new _ _ _ (by first | rfl | (simp; done) | (simp; omega))) | (with_reducible apply Blk.alloc) | ((with_reducible apply Blk.far); rotate_left; (focus (first | (simp; done) | (simp; omega) | omega))) | ((with_reducible apply Blk.grew); rotate_left; (with_reducible assumption)) | ((with_reducible apply Blk.turned); rotate_left; (with_reducible assumption); (focus (first | (simp; done) | (simp; omega) | omega))) | fail)); (· rfl)), by (apply Blk.conv; (· (repeat' first | (with_reducible assumption) | (with_reducible apply Blk.setRow) | ((with_reducible apply Blk.farRow); rotate_left; (focus (first | (simp; done) | (simp; omega) | omega))) | (with_reducible apply Blk.drew) | (with_reducible apply Blk.drewN) | (with_reducible apply Blk.set_) | (with_reducible exact Blk.new _ _ _ (by first | rfl | (simp; done) | (simp; omega))) | (with_reducible apply Blk.alloc) | ((with_reducible apply Blk.far); rotate_left; (focus (first | (simp; done) | (simp; omega) | omega))) | ((with_reducible apply Blk.grew); rotate_left; (with_reducible assumption)) | ((with_reducible apply Blk.turned); rotate_left; (with_reducible assumption); (focus (first | (simp; done) | (simp; omega) | omega))) | fail)); (· exact boolArr_congr fun i _ => by rw [show seg lo 0 i = false from by simp [seg], Bool.or_false])), by (apply Blk.conv; (· (repeat' first | (with_reducible assumption) | (with_reducible apply Blk.setRow) | ((with_reducible apply Blk.farRow); rotate_left; (focus (first | (simp; done) | (simp; omega) | omega))) | (with_reducible apply Blk.drew) | (with_reducible apply Blk.drewN) | (with_reducible apply Blk.set_) | (with_reducible exact Blk.new _ _ _ (by first | rfl | (simp; done) | (simp; omega))) | (with_reducible apply Blk.alloc) | ((with_reducible apply Blk.far); rotate_left; (focus (first | (simp; done) | (simp; omega) | omega))) | ((with_reducible apply Blk.grew); rotate_left; (with_reducible assumption)) | ((with_reducible apply Blk.turned); rotate_left; (with_reducible assumption); (focus (first | (simp; done) | (simp; omega) | omega))) | fail)); (· rfl)), by (repeat' first | (with_reducible exact Grew.refl _) | (with_reducible assumption) | (with_reducible refine Grew.alloc ?_ _) | (with_reducible refine Grew.drew ?_) | (with_reducible refine Grew.drewN ?_ _) | (with_reducible refine Grew.setRow ?_ (by first | (simp; done) | (simp; omega) | omega) _) | (with_reducible refine Grew.setCell ?_ (by first | (simp; done) | (simp; omega) | omega) _) | ((with_reducible apply Grew.trans); rotate_left; (with_reducible assumption)) | ((with_reducible apply Grew.turn); rotate_left; (with_reducible assumption); (focus (intro i hi; first | omega | (simp at hi; omega)))) | fail)⟩
      case round =>
        obtain ⟨j, hj, hgj, rfl, hc0, hc1, hc2, hgx⟩ := hrel
        have HGJ := Lib.hid hgj
        clear hgj hb0' hb1' hr1 hce hfe
        have hx := hc1.lt
        have hx2 := hc2.lt
        have y0 := hc2.cell 0
        have y1 := hc2.cell 1
        by_cases hjn : j < n
        · have ha := hc1.cell (lo + j)
          rw [boolArr_get _ _ (by omega)] at ha
          have hf := hc1.frozen (lo + j)
          go_wp2_with fail
          go_roundg (n - (j + 1))
          case measure => rw [HGJ.out]; omega
          case rel => exact ⟨j + 1, by omega, by omega, by go_num, by (apply Blk.conv; (· (repeat' first | (with_reducible assumption) | (with_reducible apply Blk.setRow) | ((with_reducible apply Blk.farRow); rotate_left; (focus (first | (simp; done) | (simp; omega) | omega))) | (with_reducible apply Blk.drew) | (with_reducible apply Blk.drewN) | (with_reducible apply Blk.set_) | (with_reducible exact Blk.new _ _ _ (by first | rfl | (simp; done) | (simp; omega))) | (with_reducible apply Blk.alloc) | ((with_reducible apply Blk.far); rotate_left; (focus (first | (simp; done) | (simp; omega) | omega))) | ((with_reducible apply Blk.grew); rotate_left; (with_reducible assumption)) | ((with_reducible apply Blk.turned); rotate_left; (with_reducible assumption); (focus (first | (simp; done) | (simp; omega) | omega))) | fail)); (· rfl)), by (apply Blk.conv; (· (repeat' first | (with_reducible assumption) | (with_reducible apply Blk.setRow) | ((with_reducible apply Blk.farRow); rotate_left; (focus (first | (simp; done) | (simp; omega) | omega))) | (with_reducible apply Blk.drew) | (with_reducible apply Blk.drewN) | (with_reducible apply Blk.set_) | (with_reducible exact Blk.new _ _ _ (by first | rfl | (simp; done) | (simp; omega))) | (with_reducible apply Blk.alloc) | ((with_reducible apply Blk.far); rotate_left; (focus (first | (simp; done) | (simp; omega) | omega))) | ((with_reducible apply Blk.grew); rotate_left; (with_reducible assumption)) | ((with_reducible apply Blk.turned); rotate_left; (with_reducible assumption); (focus (first | (simp; done) | (simp; omega) | omega))) | fail)); (· rw [boolArr_set]; exact boolArr_congr fun i _ => seg_step _ lo j i)), by (apply Blk.conv; (· (repeat' first | (with_reducible assumption) | (with_reducible apply Blk.setRow) | ((with_reducible apply Blk.farRow); rotate_left; (focus (first | (simp; done) | (simp; omega) | omega))) | (with_reducible apply Blk.drew) | (with_reducible apply Blk.drewN) | (with_reducible apply Blk.set_) | (with_reducible exact Blk.new _ _ _ (by first | rfl | (simp; done) | (simp; omega))) | (with_reducible apply Blk.alloc) | ((with_reducible apply Blk.far); rotate_left; (focus (first | (simp; done) | (simp; omega) | omega))) | ((with_reducible apply Blk.grew); rotate_left; (with_reducible assumption)) | ((with_reducible apply Blk.turned); rotate_left; (with_reducible assumption); (focus (first | (simp; done) | (simp; omega) | omega))) | fail)); (· rfl)), by (repeat' first | (with_reducible exact Grew.refl _) | (with_reducible assumption) | (with_reducible refine Grew.alloc ?_ _) | (with_reducible refine Grew.drew ?_) | (with_reducible refine Grew.drewN ?_ _) | (with_reducible refine Grew.setRow ?_ (by first | (simp; done) | (simp; omega) | omega) _) | (with_reducible refine Grew.setCell ?_ (by first | (simp; done) | (simp; omega) | omega) _) | ((with_reducible apply Grew.trans); rotate_left; (with_reducible assumption)) | ((with_reducible apply Grew.turn); rotate_left; (with_reducible assumption); (focus (intro i hi; first | omega | (simp at hi; omega)))) | fail)⟩
        · obtain rfl : j = n := by omega
          go_wp2_with fail
          go_roundg (l.length - (k + 1))
          case measure => rw [HGK.out]; omega
          case rel => exact ⟨k + 1, by omega, by omega, by go_num, hc0, by (apply Blk.conv; (· (repeat' first | (with_reducible assumption) | (with_reducible apply Blk.setRow) | ((with_reducible apply Blk.farRow); rotate_left; (focus (first | (simp; done) | (simp; omega) | omega))) | (with_reducible apply Blk.drew) | (with_reducible apply Blk.drewN) | (with_reducible apply Blk.set_) | (with_reducible exact Blk.new _ _ _ (by first | rfl | (simp; done) | (simp; omega))) | (with_reducible apply Blk.alloc) | ((with_reducible apply Blk.far); rotate_left; (focus (first | (simp; done) | (simp; omega) | omega))) | ((with_reducible apply Blk.grew); rotate_left; (with_reducible assumption)) | ((with_reducible apply Blk.turned); rotate_left; (with_reducible assumption); (focus (first | (simp; done) | (simp; omega) | omega))) | fail)); (· exact boolArr_congr fun i _ => (HN.out i).symm)), hgx⟩
    · obtain rfl : k = l.length := by omega
      rw [List.take_length] at hb1
      clear hlt
      go_wp2_with (first | (refine wpList_load_blk rfl 64 _ rfl (w.heap.size + 1) rfl 64 (boolArr (memS l)) _ hb1 Try.underlying64 rfl (by rw [boolArr_size]; exact info_set) ?_) | (refine wpList_store_blk rfl 64 _ _ rfl w.heap.size (boolArr (memS l)) rfl rfl 64 _ hb0 (by rw [boolArr_size, boolArr_size]) (by rw [boolArr_size]; exact info_set) (boolArr_one _) ?_))
      refine bodyPost_ret (results_cell_row rfl _ _ _ 64 (boolArr (memS l)) (0, 0) _ rfl (hb0.setRow _) Try.underlying64 rfl (by rw [boolArr_size]; exact info_set)) rfl ?_
      exact ⟨rfl, by (repeat' first | (with_reducible exact Grew.refl _) | (with_reducible assumption) | (with_reducible refine Grew.alloc ?_ _) | (with_reducible refine Grew.drew ?_) | (with_reducible refine Grew.drewN ?_ _) | (with_reducible refine Grew.setRow ?_ (by first | (simp; done) | (simp; omega) | omega) _) | (with_reducible refine Grew.setCell ?_ (by first | (simp; done) | (simp; omega) | omega) _) | ((with_reducible apply Grew.trans); rotate_left; (with_reducible assumption)) | ((with_reducible apply Grew.turn); rotate_left; (with_reducible assumption); (focus (intro i hi; first | omega | (simp at hi; omega)))) | fail)⟩
end Go.Proofs.Ytenbcjlikoajdaa
