/- Equal lists; Normal, Valid. -/
import Derived.Test.YtenbcjlikoajdaaExtE
import Derived.Deep.QuietTactic
import Derived.BigQuiet
namespace Go.Proofs.Ytenbcjlikoajdaa
set_option linter.unusedVariables false
set_option linter.unusedSimpArgs false
set_option linter.unusedSectionVars false
open Go.RowKit
def ints (l : List (Nat × Nat)) : List (Int × Int) := l.map fun r => ((r.1 : Int), (r.2 : Int))
theorem ints_len (l : List (Nat × Nat)) : (ints l).length = l.length := by simp [ints]
theorem ints_rows (l : List (Nat × Nat)) : (ints l).map runC = l.map rowN := by simp [ints, runC, rowN]
theorem own_runs {w : World} {base : Nat} {v : Value} {l : List (Nat × Nat)} (h : OwnL w base 25 2 v (l.map rowN)) (hb : ∀ r ∈ l, r.1 + r.2 ≤ 1000000) :
    ∃ A c, v = .slice A (ints l).length c ∧ RunsAt w w.heap.size A (ints l) := by
  obtain ⟨A, c, hv, _, _, hl⟩ := h.listAt
  refine ⟨A, c, by rw [hv, List.length_map, ints_len], ?_, by rw [ints_rows]; exact hl⟩
  intro r hr
  obtain ⟨x, hx, rfl⟩ := List.mem_map.1 hr
  have := hb x hx
  unfold okRun
  simp only []
  omega
theorem OwnL.mono {w : World} {base base' e sz : Nat} {v : Value} {rows : List (List Value)} (h : OwnL w base e sz v rows) (hb : base' ≤ base) : OwnL w base' e sz v rows := by
  refine ⟨h.1, h.2.1, ?_⟩
  rcases h.2.2 with h0 | ⟨g, cap, cur, hv, hg, hr⟩
  · exact .inl h0
  · exact .inr ⟨g, cap, cur, hv, by omega, hr⟩
/-- The two lists, element by element. -/
theorem list_eq_of {l1 l2 : List (Int × Int)} (hl : l1.length = l2.length) (h : ∀ j (h1 : j < l1.length) (h2 : j < l2.length), l1[j] = l2[j]) : l1 = l2 := List.ext_getElem hl h
set_option maxRecDepth 100000 in
set_option maxHeartbeats 4000000 in
theorem equal_any (A1 A2 : Option Addr) (c1 c2 : Nat) (l1 l2 : List (Int × Int)) (w : World) (B : Nat) (hB : B ≤ w.heap.size) (hl1 : l1.length ≤ 1000000) (hl2 : l2.length ≤ 1000000) (hr1 : RunsAt w B A1 l1) (hr2 : RunsAt w B A2 l2) :
    Calls Try.prog 50 #[.slice A1 l1.length c1, .slice A2 l2.length c2] w fun e w' => e = .returned (.bool (decide (l1 = l2))) ∧ Grew w w' := by
  by_cases hlen : l1.length = l2.length
  · have HL := Lib.hid hlen
    have hb : ((l1.length : Int) != (l2.length : Int)) = false := by rw [hlen]; simp
    have HR1 := Lib.hid hr1
    have HR2 := Lib.hid hr2
    clear hr1 hr2 hlen
    go_enter Try.func50, Try.ntmps50
    go_wp2_with fail
    go_loopg [13] l1.length (fun gk i wr => ∃ k : Nat, k ≤ l1.length ∧ gk = l1.length - k ∧ i = .int .i64 k ∧ (∀ j (h1 : j < l1.length) (h2 : j < l2.length), j < k → l1[j] = l2[j]) ∧ Grew w wr)
    case atStart => exact ⟨0, by omega, by omega, rfl, fun j _ _ h => by omega, by (repeat' first | (with_reducible exact Grew.refl _) | (with_reducible assumption) | (with_reducible refine Grew.alloc ?_ _) | (with_reducible refine Grew.drew ?_) | (with_reducible refine Grew.drewN ?_ _) | (with_reducible refine Grew.setRow ?_ (by first | (simp; done) | (simp; omega) | omega) _) | (with_reducible refine Grew.setCell ?_ (by first | (simp; done) | (simp; omega) | omega) _) | ((with_reducible apply Grew.trans); rotate_left; (with_reducible assumption)) | ((with_reducible apply Grew.turn); rotate_left; (with_reducible assumption); (focus (intro i hi; first | omega | (simp at hi; omega)))) | fail)⟩
    case round =>
      obtain ⟨k, hk, hgk, rfl, hall, hg⟩ := hrel
      have HGK := Lib.hid hgk
      have HA := Lib.hid hall
      clear hgk hall
      by_cases hlt : k < l1.length
      · have hlt2 : k < l2.length := by rw [← HL.out]; exact hlt
        obtain ⟨b, off, f, c, rfl, hb1, hlk, -, x0, x1⟩ := (HR1.out.keep hB hg).at_ hlt
        obtain ⟨b', off', f', c', rfl, hb2, hlk', -, y0, y1⟩ := (HR2.out.keep hB hg).at_ hlt2
        have HK := Lib.hid hlk
        have HK' := Lib.hid hlk'
        clear hlk hlk'
        by_cases heq : f = f' ∧ c = c'
        · obtain ⟨rfl, rfl⟩ := heq
          go_wp2_with fail
          go_quiet (fail)
          go_wp2_with fail
          go_roundg (l1.length - (k + 1))
          case measure => rw [HGK.out]; omega
          case rel =>
            refine ⟨k + 1, by omega, by omega, by go_num, fun j h1 h2 hj => ?_, by (repeat' first | (with_reducible exact Grew.refl _) | (with_reducible assumption) | (with_reducible refine Grew.alloc ?_ _) | (with_reducible refine Grew.drew ?_) | (with_reducible refine Grew.drewN ?_ _) | (with_reducible refine Grew.setRow ?_ (by first | (simp; done) | (simp; omega) | omega) _) | (with_reducible refine Grew.setCell ?_ (by first | (simp; done) | (simp; omega) | omega) _) | ((with_reducible apply Grew.trans); rotate_left; (with_reducible assumption)) | ((with_reducible apply Grew.turn); rotate_left; (with_reducible assumption); (focus (intro i hi; first | omega | (simp at hi; omega)))) | fail)⟩
            by_cases hjk : j = k
            · subst hjk; rw [HK.out, HK'.out]
            · exact HA.out j h1 h2 (by omega)
        · have HD := Lib.hid (show decide (l1 = l2) = false from by
            rw [decide_eq_false_iff_not]
            intro h
            apply heq
            have h2 : l1[k] = l2[k] := by simp only [h]
            rw [HK.out, HK'.out] at h2
            exact ⟨congrArg Prod.fst h2, congrArg Prod.snd h2⟩)
          by_cases hf : f = f'
          · subst hf
            have hb2 : (c == c') = false := beq_eq_false_iff_ne.2 (fun h => heq ⟨rfl, h⟩)
            clear heq
            go_wp2_with fail
            go_quiet (fail)
            go_wp2_with fail
            go_ret
            exact ⟨ret_bool (by rw [HD.out]), by (repeat' first | (with_reducible exact Grew.refl _) | (with_reducible assumption) | (with_reducible refine Grew.alloc ?_ _) | (with_reducible refine Grew.drew ?_) | (with_reducible refine Grew.drewN ?_ _) | (with_reducible refine Grew.setRow ?_ (by first | (simp; done) | (simp; omega) | omega) _) | (with_reducible refine Grew.setCell ?_ (by first | (simp; done) | (simp; omega) | omega) _) | ((with_reducible apply Grew.trans); rotate_left; (with_reducible assumption)) | ((with_reducible apply Grew.turn); rotate_left; (with_reducible assumption); (focus (intro i hi; first | omega | (simp at hi; omega)))) | fail)⟩
          · have hb2 : (f == f') = false := beq_eq_false_iff_ne.2 hf
            clear heq
            go_wp2_with fail
            go_quiet (fail)
            go_wp2_with fail
            go_ret
            exact ⟨ret_bool (by rw [HD.out]), by (repeat' first | (with_reducible exact Grew.refl _) | (with_reducible assumption) | (with_reducible refine Grew.alloc ?_ _) | (with_reducible refine Grew.drew ?_) | (with_reducible refine Grew.drewN ?_ _) | (with_reducible refine Grew.setRow ?_ (by first | (simp; done) | (simp; omega) | omega) _) | (with_reducible refine Grew.setCell ?_ (by first | (simp; done) | (simp; omega) | omega) _) | ((with_reducible apply Grew.trans); rotate_left; (with_reducible assumption)) | ((with_reducible apply Grew.turn); rotate_left; (with_reducible assumption); (focus (intro i hi; first | omega | (simp at hi; omega)))) | fail)⟩
      · have HD := Lib.hid (show decide (l1 = l2) = true from by
          rw [decide_eq_true_eq]
          exact list_eq_of HL.out (fun j h1 h2 => HA.out j h1 h2 (by omega)))
        go_wp2_with fail
        go_ret
        exact ⟨ret_bool (by rw [HD.out]), by (repeat' first | (with_reducible exact Grew.refl _) | (with_reducible assumption) | (with_reducible refine Grew.alloc ?_ _) | (with_reducible refine Grew.drew ?_) | (with_reducible refine Grew.drewN ?_ _) | (with_reducible refine Grew.setRow ?_ (by first | (simp; done) | (simp; omega) | omega) _) | (with_reducible refine Grew.setCell ?_ (by first | (simp; done) | (simp; omega) | omega) _) | ((with_reducible apply Grew.trans); rotate_left; (with_reducible assumption)) | ((with_reducible apply Grew.turn); rotate_left; (with_reducible assumption); (focus (intro i hi; first | omega | (simp at hi; omega)))) | fail)⟩
  · have HD := Lib.hid (show decide (l1 = l2) = false from by
      rw [decide_eq_false_iff_not]; intro h; exact hlen (by rw [h]))
    have hb : ((l1.length : Int) != (l2.length : Int)) = true := by rw [bne_iff_ne]; omega
    clear hlen
    go_enter Try.func50, Try.ntmps50
    go_wp2_with fail
    go_ret
    exact ⟨ret_bool (by rw [HD.out]), by (repeat' first | (with_reducible exact Grew.refl _) | (with_reducible assumption) | (with_reducible refine Grew.alloc ?_ _) | (with_reducible refine Grew.drew ?_) | (with_reducible refine Grew.drewN ?_ _) | (with_reducible refine Grew.setRow ?_ (by first | (simp; done) | (simp; omega) | omega) _) | (with_reducible refine Grew.setCell ?_ (by first | (simp; done) | (simp; omega) | omega) _) | ((with_reducible apply Grew.trans); rotate_left; (with_reducible assumption)) | ((with_reducible apply Grew.turn); rotate_left; (with_reducible assumption); (focus (intro i hi; first | omega | (simp at hi; omega)))) | fail)⟩
set_option maxRecDepth 100000 in
set_option maxHeartbeats 4000000 in
theorem same_any (A1 A2 : Option Addr) (c1 c2 : Nat) (l1 l2 : List (Int × Int)) (w : World) (B : Nat) (hB : B ≤ w.heap.size) (hl1 : l1.length ≤ 1000000) (hl2 : l2.length ≤ 1000000) (hr1 : RunsAt w B A1 l1) (hr2 : RunsAt w B A2 l2) :
    Calls Try.prog 16 #[.slice A1 l1.length c1, .slice A2 l2.length c2] w fun e w' => e = .returned (.bool (decide (l1 = l2))) ∧ Grew w w' := by
  by_cases hlen : l1.length = l2.length
  · have HL := Lib.hid hlen
    have hb : ((l1.length : Int) != (l2.length : Int)) = false := by rw [hlen]; simp
    have HR1 := Lib.hid hr1
    have HR2 := Lib.hid hr2
    clear hr1 hr2 hlen
    go_enter Try.func16, Try.ntmps16
    go_wp2_with fail
    go_loopg [5] l1.length (fun gk i wr => ∃ k : Nat, k ≤ l1.length ∧ gk = l1.length - k ∧ i = .int .i64 k ∧ (∀ j (h1 : j < l1.length) (h2 : j < l2.length), j < k → l1[j] = l2[j]) ∧ Grew w wr)
    case atStart => exact ⟨0, by omega, by omega, rfl, fun j _ _ h => by omega, by (repeat' first | (with_reducible exact Grew.refl _) | (with_reducible assumption) | (with_reducible refine Grew.alloc ?_ _) | (with_reducible refine Grew.drew ?_) | (with_reducible refine Grew.drewN ?_ _) | (with_reducible refine Grew.setRow ?_ (by first | (simp; done) | (simp; omega) | omega) _) | (with_reducible refine Grew.setCell ?_ (by first | (simp; done) | (simp; omega) | omega) _) | ((with_reducible apply Grew.trans); rotate_left; (with_reducible assumption)) | ((with_reducible apply Grew.turn); rotate_left; (with_reducible assumption); (focus (intro i hi; first | omega | (simp at hi; omega)))) | fail)⟩
    case round =>
      obtain ⟨k, hk, hgk, rfl, hall, hg⟩ := hrel
      have HGK := Lib.hid hgk
      have HA := Lib.hid hall
      clear hgk hall
      by_cases hlt : k < l1.length
      · have hlt2 : k < l2.length := by rw [← HL.out]; exact hlt
        obtain ⟨b, off, f, c, rfl, hb1, hlk, -, x0, x1⟩ := (HR1.out.keep hB hg).at_ hlt
        obtain ⟨b', off', f', c', rfl, hb2, hlk', -, y0, y1⟩ := (HR2.out.keep hB hg).at_ hlt2
        have HK := Lib.hid hlk
        have HK' := Lib.hid hlk'
        clear hlk hlk'
        by_cases heq : f = f' ∧ c = c'
        · obtain ⟨rfl, rfl⟩ := heq
          go_wp2_with fail
          go_quiet (fail)
          go_wp2_with fail
          go_roundg (l1.length - (k + 1))
          case measure => rw [HGK.out]; omega
          case rel =>
            refine ⟨k + 1, by omega, by omega, by go_num, fun j h1 h2 hj => ?_, by (repeat' first | (with_reducible exact Grew.refl _) | (with_reducible assumption) | (with_reducible refine Grew.alloc ?_ _) | (with_reducible refine Grew.drew ?_) | (with_reducible refine Grew.drewN ?_ _) | (with_reducible refine Grew.setRow ?_ (by first | (simp; done) | (simp; omega) | omega) _) | (with_reducible refine Grew.setCell ?_ (by first | (simp; done) | (simp; omega) | omega) _) | ((with_reducible apply Grew.trans); rotate_left; (with_reducible assumption)) | ((with_reducible apply Grew.turn); rotate_left; (with_reducible assumption); (focus (intro i hi; first | omega | (simp at hi; omega)))) | fail)⟩
            by_cases hjk : j = k
            · subst hjk; rw [HK.out, HK'.out]
            · exact HA.out j h1 h2 (by omega)
        · have HD := Lib.hid (show decide (l1 = l2) = false from by
            rw [decide_eq_false_iff_not]
            intro h
            apply heq
            have h2 : l1[k] = l2[k] := by simp only [h]
            rw [HK.out, HK'.out] at h2
            exact ⟨congrArg Prod.fst h2, congrArg Prod.snd h2⟩)
          by_cases hf : f = f'
          · subst hf
            have hb2 : (c == c') = false := beq_eq_false_iff_ne.2 (fun h => heq ⟨rfl, h⟩)
            clear heq
            go_wp2_with fail
            go_quiet (fail)
            go_wp2_with fail
            go_ret
            exact ⟨ret_bool (by rw [HD.out]), by (repeat' first | (with_reducible exact Grew.refl _) | (with_reducible assumption) | (with_reducible refine Grew.alloc ?_ _) | (with_reducible refine Grew.drew ?_) | (with_reducible refine Grew.drewN ?_ _) | (with_reducible refine Grew.setRow ?_ (by first | (simp; done) | (simp; omega) | omega) _) | (with_reducible refine Grew.setCell ?_ (by first | (simp; done) | (simp; omega) | omega) _) | ((with_reducible apply Grew.trans); rotate_left; (with_reducible assumption)) | ((with_reducible apply Grew.turn); rotate_left; (with_reducible assumption); (focus (intro i hi; first | omega | (simp at hi; omega)))) | fail)⟩
          · have hb2 : (f == f') = false := beq_eq_false_iff_ne.2 hf
            clear heq
            go_wp2_with fail
            go_quiet (fail)
            go_wp2_with fail
            go_ret
            exact ⟨ret_bool (by rw [HD.out]), by (repeat' first | (with_reducible exact Grew.refl _) | (with_reducible assumption) | (with_reducible refine Grew.alloc ?_ _) | (with_reducible refine Grew.drew ?_) | (with_reducible refine Grew.drewN ?_ _) | (with_reducible refine Grew.setRow ?_ (by first | (simp; done) | (simp; omega) | omega) _) | (with_reducible refine Grew.setCell ?_ (by first | (simp; done) | (simp; omega) | omega) _) | ((with_reducible apply Grew.trans); rotate_left; (with_reducible assumption)) | ((with_reducible apply Grew.turn); rotate_left; (with_reducible assumption); (focus (intro i hi; first | omega | (simp at hi; omega)))) | fail)⟩
      · have HD := Lib.hid (show decide (l1 = l2) = true from by
          rw [decide_eq_true_eq]
          exact list_eq_of HL.out (fun j h1 h2 => HA.out j h1 h2 (by omega)))
        go_wp2_with fail
        go_ret
        exact ⟨ret_bool (by rw [HD.out]), by (repeat' first | (with_reducible exact Grew.refl _) | (with_reducible assumption) | (with_reducible refine Grew.alloc ?_ _) | (with_reducible refine Grew.drew ?_) | (with_reducible refine Grew.drewN ?_ _) | (with_reducible refine Grew.setRow ?_ (by first | (simp; done) | (simp; omega) | omega) _) | (with_reducible refine Grew.setCell ?_ (by first | (simp; done) | (simp; omega) | omega) _) | ((with_reducible apply Grew.trans); rotate_left; (with_reducible assumption)) | ((with_reducible apply Grew.turn); rotate_left; (with_reducible assumption); (focus (intro i hi; first | omega | (simp at hi; omega)))) | fail)⟩
  · have HD := Lib.hid (show decide (l1 = l2) = false from by
      rw [decide_eq_false_iff_not]; intro h; exact hlen (by rw [h]))
    have hb : ((l1.length : Int) != (l2.length : Int)) = true := by rw [bne_iff_ne]; omega
    clear hlen
    go_enter Try.func16, Try.ntmps16
    go_wp2_with fail
    go_ret
    exact ⟨ret_bool (by rw [HD.out]), by (repeat' first | (with_reducible exact Grew.refl _) | (with_reducible assumption) | (with_reducible refine Grew.alloc ?_ _) | (with_reducible refine Grew.drew ?_) | (with_reducible refine Grew.drewN ?_ _) | (with_reducible refine Grew.setRow ?_ (by first | (simp; done) | (simp; omega) | omega) _) | (with_reducible refine Grew.setCell ?_ (by first | (simp; done) | (simp; omega) | omega) _) | ((with_reducible apply Grew.trans); rotate_left; (with_reducible assumption)) | ((with_reducible apply Grew.turn); rotate_left; (with_reducible assumption); (focus (intro i hi; first | omega | (simp at hi; omega)))) | fail)⟩
set_option maxRecDepth 100000 in
set_option maxHeartbeats 4000000 in
theorem normal_any (A : Option Addr) (c : Nat) (l : List (Int × Int)) (w : World) (B : Nat) (hB : B ≤ w.heap.size) (hl : l.length ≤ 1000000) (hr : RunsAt w B A l) :
    Calls Try.prog 37 #[.slice A l.length c] w fun e w' => ∃ v, e = .returned v ∧ OwnL w' w.heap.size 25 2 v ((normS (memS l)).map rowN) ∧ Grew w w' := by
  have hz := zero_set
  go_enter Try.func37, Try.ntmps37
  go_wp2_with fail
  refine (of_any A c l w B hB (by omega) hr).mono ?_
  rintro e w1 ⟨rfl, g1⟩
  have hb := Blk.new w1 64 (boolArr fun _ => false) rfl
  go_wp2_with (refine wpList_store_blk rfl 64 _ _ rfl w1.heap.size (boolArr (memS l)) rfl rfl 64 _ hb (by rw [boolArr_size, boolArr_size]) (by rw [boolArr_size]; exact info_set) (boolArr_one _) ?_)
  refine (runs_any w1.heap.size (memS l) _ (hb.setRow _)).mono ?_
  rintro e w2 ⟨v, rfl, hown, g2⟩
  have hge : w.heap.size ≤ w1.heap.size := g1.size
  go_wp2_with fail
  go_ret
  exact ⟨v, rfl, hown.mono (by simp [World.setRow]; omega), by (repeat' first | (with_reducible exact Grew.refl _) | (with_reducible assumption) | (with_reducible refine Grew.alloc ?_ _) | (with_reducible refine Grew.drew ?_) | (with_reducible refine Grew.drewN ?_ _) | (with_reducible refine Grew.setRow ?_ (by first | (simp; done) | (simp; omega) | omega) _) | (with_reducible refine Grew.setCell ?_ (by first | (simp; done) | (simp; omega) | omega) _) | ((with_reducible apply Grew.trans); rotate_left; (with_reducible assumption)) | ((with_reducible apply Grew.turn); rotate_left; (with_reducible assumption); (focus (intro i hi; first | omega | (simp at hi; omega)))) | fail)⟩
end Go.Proofs.Ytenbcjlikoajdaa
