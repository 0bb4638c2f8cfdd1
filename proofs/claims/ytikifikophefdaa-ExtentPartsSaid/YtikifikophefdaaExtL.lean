/- The laws' helper runs. -/
import Derived.Test.YtikifikophefdaaExtK
import Derived.Test.YtikifikophefdaaPush
namespace Go.Proofs.Ytikifikophefdaa
set_option linter.unusedVariables false
set_option linter.unusedSimpArgs false
set_option linter.unusedSectionVars false
open Go.RowKit
def flatR (l : List (Int × Int)) : List Int := l.flatMap fun r => [r.1, r.2]
theorem flatR_len (l : List (Int × Int)) : (flatR l).length = 2 * l.length := by
  induction l with
  | nil => rfl
  | cons r l ih => simp only [flatR, List.flatMap_cons, List.length_append, List.length_cons, List.length_nil] at ih ⊢; omega
theorem flatR_at (l : List (Int × Int)) : ∀ k (h : k < l.length), (flatR l)[2 * k]? = some l[k].1 ∧ (flatR l)[2 * k + 1]? = some l[k].2 := by
  induction l with
  | nil => intro k h; simp at h
  | cons r l ih =>
    intro k h
    cases k with
    | zero => exact ⟨rfl, rfl⟩
    | succ k =>
      have := ih k (by simpa using h)
      simp only [flatR, List.flatMap_cons] at this ⊢
      exact ⟨this.1, this.2⟩
def intC (n : Int) : List Value := [.int .i64 n]
theorem own_runsI {w : World} {base : Nat} {v : Value} {l : List (Int × Int)} (h : OwnL w base 42 2 v (l.map runC)) (hb : ∀ r ∈ l, okRun r) :
    ∃ A c, v = .slice A l.length c ∧ RunsAt w w.heap.size A l := by
  obtain ⟨A, c, hv, _, _, hl⟩ := h.listAt
  exact ⟨A, c, by rw [hv, List.length_map], hb, hl⟩
set_option maxRecDepth 100000 in
set_option maxHeartbeats 8000000 in
theorem mkruns_any (A : Option Addr) (c n : Nat) (l : List (Int × Int)) (w : World) (B : Nat) (hB : B ≤ w.heap.size) (hn : n = 2 * l.length) (hl : l.length ≤ 1000000) (hr : ListAt w B 1 A ((flatR l).map intC)) :
    Calls Try.prog 33 #[.slice A n c] w fun e w' => ∃ v, e = .returned v ∧ OwnL w' w.heap.size 42 2 v (l.map runC) ∧ Grew w w' := by
  have HR := Lib.hid hr
  clear hr
  go_enter Try.func33, Try.ntmps33
  go_wp2_with fail
  go_loopg [3, 4] l.length (fun gk v i wr => ∃ k p : Nat, k ≤ l.length ∧ gk = l.length - k ∧ i = .int .i64 p ∧ p = 2 * k ∧ OwnL wr w.heap.size 42 2 v ((l.take k).map runC) ∧ Grew w wr)
  case atStart => exact ⟨0, 0, by omega, by omega, rfl, rfl, OwnL.nil _ _ _ _, by (repeat' first | (with_reducible exact Grew.refl _) | (with_reducible assumption) | (with_reducible refine Grew.alloc ?_ _) | (with_reducible refine Grew.drew ?_) | (with_reducible refine Grew.drewN ?_ _) | (with_reducible refine Grew.setRow ?_ (by first | (simp; done) | (simp; omega) | omega) _) | (with_reducible refine Grew.setCell ?_ (by first | (simp; done) | (simp; omega) | omega) _) | ((with_reducible apply Grew.trans); rotate_left; (with_reducible assumption)) | ((with_reducible apply Grew.turn); rotate_left; (with_reducible assumption); (focus (intro i hi; first | omega | (simp at hi; omega)))) | fail)⟩
  case round =>
    obtain ⟨k, p, hk, hgk, rfl, hp, hown, hg⟩ := hrel
    have HGK := Lib.hid hgk
    clear hgk
    by_cases hlt : k < l.length
    · obtain ⟨b, off, rfl, hb, hcells⟩ := (HR.out.keep hB hg) (by rw [List.length_map, flatR_len]; omega)
      have hbs : b < wr.heap.size := by have := hg.size; omega
      obtain ⟨q0, q1⟩ := flatR_at l k hlt
      rw [← hp] at q0 q1
      have c0 := hcells p (intC l[k].1) (by rw [List.getElem?_map, q0]; rfl) 0 _ rfl
      have c1 := hcells (p + 1) (intC l[k].2) (by rw [List.getElem?_map, q1]; rfl) 0 _ rfl
      rw [Nat.mul_one, Nat.add_zero] at c0 c1
      have HN := Lib.hid (show l.take (k + 1) = l.take k ++ [l[k]] from List.take_succ_eq_append_getElem hlt)
      generalize l[k] = r at *
      obtain ⟨f, c⟩ := r
      simp only at c0 c1
      have htl : (l.take k).length = k := by rw [List.length_take]; omega
      have HTL := Lib.hid htl
      have hp0 : (0 : Int) ≤ (p : Int) := by omega
      have hp1 : (p : Int) < (n : Int) := by omega
      have hp2 : (0 : Int) ≤ (p : Int) + 1 := by omega
      have hp3 : (p : Int) + 1 < (n : Int) := by omega
      have hnb : n ≤ 2000000 := by omega
      have hwr : IntKind.i64.wrap ((p : Int) + 1) = ((p + 1 : Nat) : Int) := by rw [IntKind.wrap_i64]; omega
      have hp4 : (0 : Int) ≤ ((p + 1 : Nat) : Int) := by omega
      have hp5 : ((p + 1 : Nat) : Int) < (n : Int) := by omega
      have hpn : p + 2 = 2 * (k + 1) := by omega
      have HPN := Lib.hid hpn
      have HP := Lib.hid hp
      have HNN := Lib.hid hn
      clear hcells q0 q1 htl hp hn hpn
      have hbo := hown.row_ge
      go_wp2_with fail

      go_region_held3 (fun w' => w'.cell? ⟨b, off + p, none⟩ = some (.int .i64 f) ∧ w'.cell? ⟨b, off + (p + 1), none⟩ = some (.int .i64 c))
        (first
          | go_keep
          | (go_split_ands
             refine ⟨?_, ?_⟩
             · (rw [hgrow.cell_far _ (by simp; omega) (fun e => by have := hbo _ e.symm; simp only at this; omega)]; assumption)
             · (rw [hgrow.cell_far _ (by simp; omega) (fun e => by have := hbo _ e.symm; simp only at this; omega)]; assumption)))
        ((refine step_push (by rfl) _ _ 22 (by rfl) w.heap.size 42 2 16 _ Try.underlying22 info_run rfl (by decide) _ _ ((l.take k).map runC) (runC (f, c)) rfl (by rfl) (by first | exact (hown.alloc _).drew | exact hown.drew.alloc _ | exact hown.alloc _) _ (by rfl) (by first | exact (Blk.new _ _ _ rfl).drew | exact Blk.new _ _ _ rfl) rfl (by rw [List.length_map, HTL.out]; omega) (by rw [List.length_map, HTL.out]; omega) (by simp; have := hg.size; omega) k (by rw [List.length_map, HTL.out]) ?_; intro g cap w3 hown3 hgrow hat hlt3))
      go_wp2_with fail
      go_roundg (l.length - (k + 1))
      case measure => rw [HGK.out]; omega
      case rel => exact ⟨k + 1, p + 2, by omega, by omega, by go_num, HPN.out, by rw [HN.out, List.map_append]; exact hown3, Grew.own (by (repeat' first | (with_reducible exact Grew.refl _) | (with_reducible assumption) | (with_reducible refine Grew.alloc ?_ _) | (with_reducible refine Grew.drew ?_) | (with_reducible refine Grew.drewN ?_ _) | (with_reducible refine Grew.setRow ?_ (by first | (simp; done) | (simp; omega) | omega) _) | (with_reducible refine Grew.setCell ?_ (by first | (simp; done) | (simp; omega) | omega) _) | ((with_reducible apply Grew.trans); rotate_left; (with_reducible assumption)) | ((with_reducible apply Grew.turn); rotate_left; (with_reducible assumption); (focus (intro i hi; first | omega | (simp at hi; omega)))) | fail)) hgrow hbo (Nat.le_refl _)⟩
    · obtain rfl : k = l.length := by omega
      rw [List.take_length] at hown
      go_wp2_with fail
      go_ret
      exact ⟨_, rfl, hown, hg⟩
end Go.Proofs.Ytikifikophefdaa
