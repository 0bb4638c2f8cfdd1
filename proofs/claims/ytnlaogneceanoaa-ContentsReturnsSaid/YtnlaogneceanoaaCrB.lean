/- Equal lists; Normal, Valid. mix: two sets by a table. The reference's In, Set, Normal; Valid and Disjoint. The reference's Set and Normal. Join. An append at a step of a region that draws its order. awake: the example of the chapter holds. Cut: the two parts of a list. -/
import Derived.Deep.QuietTactic
import Derived.BigQuiet
import Derived.Deep.RegionHeld3
import Derived.Deep.RegionWith
import Derived.Deep.AppendLies
import Derived.Test.YtnlaogneceanoaaCrA
namespace Go.Proofs.Ytnlaogneceanoaa
set_option linter.unusedVariables false
set_option linter.unusedSimpArgs false
set_option linter.unusedSectionVars false
open Go.RowKit
def ints (l : List (Nat × Nat)) : List (Int × Int) := l.map fun r => ((r.1 : Int), (r.2 : Int))
theorem ints_len (l : List (Nat × Nat)) : (ints l).length = l.length := by simp [ints]
theorem ints_rows (l : List (Nat × Nat)) : (ints l).map runC = l.map rowN := by simp [ints, runC, rowN]
theorem own_runs {w : World} {base : Nat} {v : Value} {l : List (Nat × Nat)} (h : OwnL w base 58 2 v (l.map rowN)) (hb : ∀ r ∈ l, r.1 + r.2 ≤ 1000000) :
    ∃ A c, v = .slice A (ints l).length c ∧ RunsAt w w.heap.size A (ints l) := by
  obtain ⟨A, c, hv, _, _, hl⟩ := h.listAt
  refine ⟨A, c, by rw [hv, List.length_map, ints_len], ?_, by rw [ints_rows]; exact hl⟩
  intro r hr
  obtain ⟨x, hx, rfl⟩ := List.mem_map.1 hr
  have := hb x hx
  unfold okRun
  simp only []
  omega
theorem OwnL.mono {w : World} {base base' e sz : Nat} {v : Value} {rows : List (List Value)} (h : OwnL w base e sz v rows) (hb : base' ≤ base) : OwnL w base' e sz v rows := by
  refine ⟨h.1, h.2.1, ?_⟩
  rcases h.2.2 with h0 | ⟨g, cap, cur, hv, hg, hr⟩
  · exact .inl h0
  · exact .inr ⟨g, cap, cur, hv, by omega, hr⟩
/-- The two lists, element by element. -/
theorem list_eq_of {l1 l2 : List (Int × Int)} (hl : l1.length = l2.length) (h : ∀ j (h1 : j < l1.length) (h2 : j < l2.length), l1[j] = l2[j]) : l1 = l2 := List.ext_getElem hl h
set_option maxRecDepth 100000 in
set_option maxHeartbeats 4000000 in
theorem equal_any (A1 A2 : Option Addr) (c1 c2 : Nat) (l1 l2 : List (Int × Int)) (w : World) (B : Nat) (hB : B ≤ w.heap.size) (hl1 : l1.length ≤ 1000000) (hl2 : l2.length ≤ 1000000) (hr1 : RunsAt w B A1 l1) (hr2 : RunsAt w B A2 l2) :
    Calls Try.prog 77 #[.slice A1 l1.length c1, .slice A2 l2.length c2] w fun e w' => e = .returned (.bool (decide (l1 = l2))) ∧ Grew w w' := by
  by_cases hlen : l1.length = l2.length
  · have HL := Lib.hid hlen
    have hb : ((l1.length : Int) != (l2.length : Int)) = false := by rw [hlen]; simp
    have HR1 := Lib.hid hr1
    have HR2 := Lib.hid hr2
    clear hr1 hr2 hlen
    go_enter Try.func77, Try.ntmps77
    go_wp2_with fail
    go_loopg [13] l1.length (fun gk i wr => ∃ k : Nat, k ≤ l1.length ∧ gk = l1.length - k ∧ i = .int .i64 k ∧ (∀ j (h1 : j < l1.length) (h2 : j < l2.length), j < k → l1[j] = l2[j]) ∧ Grew w wr)
    case atStart => exact ⟨0, by omega, by omega, rfl, fun j _ _ h => by omega, by (repeat' first | (with_reducible exact Grew.refl _) | (with_reducible assumption) | (with_reducible refine Grew.alloc ?_ _) | (with_reducible refine Grew.drew ?_) | (with_reducible refine Grew.drewN ?_ _) | (with_reducible refine Grew.setRow ?_ (by first | (simp; done) | (simp; omega) | omega) _) | (with_reducible refine Grew.setCell ?_ (by first | (simp; done) | (simp; omega) | omega) _) | ((with_reducible apply Grew.trans); rotate_left; (with_reducible assumption)) | ((with_reducible apply Grew.turn); rotate_left; (with_reducible assumption); (focus (intro i hi; first | omega | (simp at hi; omega)))) | fail)⟩
    case round =>
      obtain ⟨k, hk, hgk, rfl, hall, hg⟩ := hrel
      have HGK := Lib.hid hgk
      have HA := Lib.hid hall
      clear hgk hall
      by_cases hlt : k < l1.length
      · have hlt2 : k < l2.length := by rw [← HL.out]; exact hlt
        obtain ⟨b, off, f, c, rfl, hb1, hlk, -, x0, x1⟩ := (HR1.out.keep hB hg).at_ hlt
        obtain ⟨b', off', f', c', rfl, hb2, hlk', -, y0, y1⟩ := (HR2.out.keep hB hg).at_ hlt2
        have HK := Lib.hid hlk
        have HK' := Lib.hid hlk'
        clear hlk hlk'
        by_cases heq : f = f' ∧ c = c'
        · obtain ⟨rfl, rfl⟩ := heq
          go_wp2_with fail
          go_quiet (fail)
          go_wp2_with fail
          go_roundg (l1.length - (k + 1))
          case measure => rw [HGK.out]; omega
          case rel =>
            refine ⟨k + 1, by omega, by omega, by go_num, fun j h1 h2 hj => ?_, by (repeat' first | (with_reducible exact Grew.refl _) | (with_reducible assumption) | (with_reducible refine Grew.alloc ?_ _) | (with_reducible refine Grew.drew ?_) | (with_reducible refine Grew.drewN ?_ _) | (with_reducible refine Grew.setRow ?_ (by first | (simp; done) | (simp; omega) | omega) _) | (with_reducible refine Grew.setCell ?_ (by first | (simp; done) | (simp; omega) | omega) _) | ((with_reducible apply Grew.trans); rotate_left; (with_reducible assumption)) | ((with_reducible apply Grew.turn); rotate_left; (with_reducible assumption); (focus (intro i hi; first | omega | (simp at hi; omega)))) | fail)⟩
            by_cases hjk : j = k
            · subst hjk; rw [HK.out, HK'.out]
            · exact HA.out j h1 h2 (by omega)
        · have HD := Lib.hid (show decide (l1 = l2) = false from by
            rw [decide_eq_false_iff_not]
            intro h
            apply heq
            have h2 : l1[k] = l2[k] := by simp only [h]
            rw [HK.out, HK'.out] at h2
            exact ⟨congrArg Prod.fst h2, congrArg Prod.snd h2⟩)
          by_cases hf : f = f'
          · subst hf
            have hb2 : (c == c') = false := beq_eq_false_iff_ne.2 (fun h => heq ⟨rfl, h⟩)
            clear heq
            go_wp2_with fail
            go_quiet (fail)
            go_wp2_with fail
            go_ret
            exact ⟨ret_bool (by rw [HD.out]), by (repeat' first | (with_reducible exact Grew.refl _) | (with_reducible assumption) | (with_reducible refine Grew.alloc ?_ _) | (with_reducible refine Grew.drew ?_) | (with_reducible refine Grew.drewN ?_ _) | (with_reducible refine Grew.setRow ?_ (by first | (simp; done) | (simp; omega) | omega) _) | (with_reducible refine Grew.setCell ?_ (by first | (simp; done) | (simp; omega) | omega) _) | ((with_reducible apply Grew.trans); rotate_left; (with_reducible assumption)) | ((with_reducible apply Grew.turn); rotate_left; (with_reducible assumption); (focus (intro i hi; first | omega | (simp at hi; omega)))) | fail)⟩
          · have hb2 : (f == f') = false := beq_eq_false_iff_ne.2 hf
            clear heq
            go_wp2_with fail
            go_quiet (fail)
            go_wp2_with fail
            go_ret
            exact ⟨ret_bool (by rw [HD.out]), by (repeat' first | (with_reducible exact Grew.refl _) | (with_reducible assumption) | (with_reducible refine Grew.alloc ?_ _) | (with_reducible refine Grew.drew ?_) | (with_reducible refine Grew.drewN ?_ _) | (with_reducible refine Grew.setRow ?_ (by first | (simp; done) | (simp; omega) | omega) _) | (with_reducible refine Grew.setCell ?_ (by first | (simp; done) | (simp; omega) | omega) _) | ((with_reducible apply Grew.trans); rotate_left; (with_reducible assumption)) | ((with_reducible apply Grew.turn); rotate_left; (with_reducible assumption); (focus (intro i hi; first | omega | (simp at hi; omega)))) | fail)⟩
      · have HD := Lib.hid (show decide (l1 = l2) = true from by
          rw [decide_eq_true_eq]
          exact list_eq_of HL.out (fun j h1 h2 => HA.out j h1 h2 (by omega)))
        go_wp2_with fail
        go_ret
        exact ⟨ret_bool (by rw [HD.out]), by (repeat' first | (with_reducible exact Grew.refl _) | (with_reducible assumption) | (with_reducible refine Grew.alloc ?_ _) | (with_reducible refine Grew.drew ?_) | (with_reducible refine Grew.drewN ?_ _) | (with_reducible refine Grew.setRow ?_ (by first | (simp; done) | (simp; omega) | omega) _) | (with_reducible refine Grew.setCell ?_ (by first | (simp; done) | (simp; omega) | omega) _) | ((with_reducible apply Grew.trans); rotate_left; (with_reducible assumption)) | ((with_reducible apply Grew.turn); rotate_left; (with_reducible assumption); (focus (intro i hi; first | omega | (simp at hi; omega)))) | fail)⟩
  · have HD := Lib.hid (show decide (l1 = l2) = false from by
      rw [decide_eq_false_iff_not]; intro h; exact hlen (by rw [h]))
    have hb : ((l1.length : Int) != (l2.length : Int)) = true := by rw [bne_iff_ne]; omega
    clear hlen
    go_enter Try.func77, Try.ntmps77
    go_wp2_with fail
    go_ret
    exact ⟨ret_bool (by rw [HD.out]), by (repeat' first | (with_reducible exact Grew.refl _) | (with_reducible assumption) | (with_reducible refine Grew.alloc ?_ _) | (with_reducible refine Grew.drew ?_) | (with_reducible refine Grew.drewN ?_ _) | (with_reducible refine Grew.setRow ?_ (by first | (simp; done) | (simp; omega) | omega) _) | (with_reducible refine Grew.setCell ?_ (by first | (simp; done) | (simp; omega) | omega) _) | ((with_reducible apply Grew.trans); rotate_left; (with_reducible assumption)) | ((with_reducible apply Grew.turn); rotate_left; (with_reducible assumption); (focus (intro i hi; first | omega | (simp at hi; omega)))) | fail)⟩
set_option maxRecDepth 100000 in
set_option maxHeartbeats 4000000 in
theorem same_any (A1 A2 : Option Addr) (c1 c2 : Nat) (l1 l2 : List (Int × Int)) (w : World) (B : Nat) (hB : B ≤ w.heap.size) (hl1 : l1.length ≤ 1000000) (hl2 : l2.length ≤ 1000000) (hr1 : RunsAt w B A1 l1) (hr2 : RunsAt w B A2 l2) :
    Calls Try.prog 17 #[.slice A1 l1.length c1, .slice A2 l2.length c2] w fun e w' => e = .returned (.bool (decide (l1 = l2))) ∧ Grew w w' := by
  by_cases hlen : l1.length = l2.length
  · have HL := Lib.hid hlen
    have hb : ((l1.length : Int) != (l2.length : Int)) = false := by rw [hlen]; simp
    have HR1 := Lib.hid hr1
    have HR2 := Lib.hid hr2
    clear hr1 hr2 hlen
    go_enter Try.func17, Try.ntmps17
    go_wp2_with fail
    go_loopg [5] l1.length (fun gk i wr => ∃ k : Nat, k ≤ l1.length ∧ gk = l1.length - k ∧ i = .int .i64 k ∧ (∀ j (h1 : j < l1.length) (h2 : j < l2.length), j < k → l1[j] = l2[j]) ∧ Grew w wr)
    case atStart => exact ⟨0, by omega, by omega, rfl, fun j _ _ h => by omega, by (repeat' first | (with_reducible exact Grew.refl _) | (with_reducible assumption) | (with_reducible refine Grew.alloc ?_ _) | (with_reducible refine Grew.drew ?_) | (with_reducible refine Grew.drewN ?_ _) | (with_reducible refine Grew.setRow ?_ (by first | (simp; done) | (simp; omega) | omega) _) | (with_reducible refine Grew.setCell ?_ (by first | (simp; done) | (simp; omega) | omega) _) | ((with_reducible apply Grew.trans); rotate_left; (with_reducible assumption)) | ((with_reducible apply Grew.turn); rotate_left; (with_reducible assumption); (focus (intro i hi; first | omega | (simp at hi; omega)))) | fail)⟩
    case round =>
      obtain ⟨k, hk, hgk, rfl, hall, hg⟩ := hrel
      have HGK := Lib.hid hgk
      have HA := Lib.hid hall
      clear hgk hall
      by_cases hlt : k < l1.length
      · have hlt2 : k < l2.length := by rw [← HL.out]; exact hlt
        obtain ⟨b, off, f, c, rfl, hb1, hlk, -, x0, x1⟩ := (HR1.out.keep hB hg).at_ hlt
        obtain ⟨b', off', f', c', rfl, hb2, hlk', -, y0, y1⟩ := (HR2.out.keep hB hg).at_ hlt2
        have HK := Lib.hid hlk
        have HK' := Lib.hid hlk'
        clear hlk hlk'
        by_cases heq : f = f' ∧ c = c'
        · obtain ⟨rfl, rfl⟩ := heq
          go_wp2_with fail
          go_quiet (fail)
          go_wp2_with fail
          go_roundg (l1.length - (k + 1))
          case measure => rw [HGK.out]; omega
          case rel =>
            refine ⟨k + 1, by omega, by omega, by go_num, fun j h1 h2 hj => ?_, by (repeat' first | (with_reducible exact Grew.refl _) | (with_reducible assumption) | (with_reducible refine Grew.alloc ?_ _) | (with_reducible refine Grew.drew ?_) | (with_reducible refine Grew.drewN ?_ _) | (with_reducible refine Grew.setRow ?_ (by first | (simp; done) | (simp; omega) | omega) _) | (with_reducible refine Grew.setCell ?_ (by first | (simp; done) | (simp; omega) | omega) _) | ((with_reducible apply Grew.trans); rotate_left; (with_reducible assumption)) | ((with_reducible apply Grew.turn); rotate_left; (with_reducible assumption); (focus (intro i hi; first | omega | (simp at hi; omega)))) | fail)⟩
            by_cases hjk : j = k
            · subst hjk; rw [HK.out, HK'.out]
            · exact HA.out j h1 h2 (by omega)
        · have HD := Lib.hid (show decide (l1 = l2) = false from by
            rw [decide_eq_false_iff_not]
            intro h
            apply heq
            have h2 : l1[k] = l2[k] := by simp only [h]
            rw [HK.out, HK'.out] at h2
            exact ⟨congrArg Prod.fst h2, congrArg Prod.snd h2⟩)
          by_cases hf : f = f'
          · subst hf
            have hb2 : (c == c') = false := beq_eq_false_iff_ne.2 (fun h => heq ⟨rfl, h⟩)
            clear heq
            go_wp2_with fail
            go_quiet (fail)
            go_wp2_with fail
            go_ret
            exact ⟨ret_bool (by rw [HD.out]), by (repeat' first | (with_reducible exact Grew.refl _) | (with_reducible assumption) | (with_reducible refine Grew.alloc ?_ _) | (with_reducible refine Grew.drew ?_) | (with_reducible refine Grew.drewN ?_ _) | (with_reducible refine Grew.setRow ?_ (by first | (simp; done) | (simp; omega) | omega) _) | (with_reducible refine Grew.setCell ?_ (by first | (simp; done) | (simp; omega) | omega) _) | ((with_reducible apply Grew.trans); rotate_left; (with_reducible assumption)) | ((with_reducible apply Grew.turn); rotate_left; (with_reducible assumption); (focus (intro i hi; first | omega | (simp at hi; omega)))) | fail)⟩
          · have hb2 : (f == f') = false := beq_eq_false_iff_ne.2 hf
            clear heq
            go_wp2_with fail
            go_quiet (fail)
            go_wp2_with fail
            go_ret
            exact ⟨ret_bool (by rw [HD.out]), by (repeat' first | (with_reducible exact Grew.refl _) | (with_reducible assumption) | (with_reducible refine Grew.alloc ?_ _) | (with_reducible refine Grew.drew ?_) | (with_reducible refine Grew.drewN ?_ _) | (with_reducible refine Grew.setRow ?_ (by first | (simp; done) | (simp; omega) | omega) _) | (with_reducible refine Grew.setCell ?_ (by first | (simp; done) | (simp; omega) | omega) _) | ((with_reducible apply Grew.trans); rotate_left; (with_reducible assumption)) | ((with_reducible apply Grew.turn); rotate_left; (with_reducible assumption); (focus (intro i hi; first | omega | (simp at hi; omega)))) | fail)⟩
      · have HD := Lib.hid (show decide (l1 = l2) = true from by
          rw [decide_eq_true_eq]
          exact list_eq_of HL.out (fun j h1 h2 => HA.out j h1 h2 (by omega)))
        go_wp2_with fail
        go_ret
        exact ⟨ret_bool (by rw [HD.out]), by (repeat' first | (with_reducible exact Grew.refl _) | (with_reducible assumption) | (with_reducible refine Grew.alloc ?_ _) | (with_reducible refine Grew.drew ?_) | (with_reducible refine Grew.drewN ?_ _) | (with_reducible refine Grew.setRow ?_ (by first | (simp; done) | (simp; omega) | omega) _) | (with_reducible refine Grew.setCell ?_ (by first | (simp; done) | (simp; omega) | omega) _) | ((with_reducible apply Grew.trans); rotate_left; (with_reducible assumption)) | ((with_reducible apply Grew.turn); rotate_left; (with_reducible assumption); (focus (intro i hi; first | omega | (simp at hi; omega)))) | fail)⟩
  · have HD := Lib.hid (show decide (l1 = l2) = false from by
      rw [decide_eq_false_iff_not]; intro h; exact hlen (by rw [h]))
    have hb : ((l1.length : Int) != (l2.length : Int)) = true := by rw [bne_iff_ne]; omega
    clear hlen
    go_enter Try.func17, Try.ntmps17
    go_wp2_with fail
    go_ret
    exact ⟨ret_bool (by rw [HD.out]), by (repeat' first | (with_reducible exact Grew.refl _) | (with_reducible assumption) | (with_reducible refine Grew.alloc ?_ _) | (with_reducible refine Grew.drew ?_) | (with_reducible refine Grew.drewN ?_ _) | (with_reducible refine Grew.setRow ?_ (by first | (simp; done) | (simp; omega) | omega) _) | (with_reducible refine Grew.setCell ?_ (by first | (simp; done) | (simp; omega) | omega) _) | ((with_reducible apply Grew.trans); rotate_left; (with_reducible assumption)) | ((with_reducible apply Grew.turn); rotate_left; (with_reducible assumption); (focus (intro i hi; first | omega | (simp at hi; omega)))) | fail)⟩
set_option maxRecDepth 100000 in
set_option maxHeartbeats 4000000 in
theorem normal_any (A : Option Addr) (c : Nat) (l : List (Int × Int)) (w : World) (B : Nat) (hB : B ≤ w.heap.size) (hl : l.length ≤ 1000000) (hr : RunsAt w B A l) :
    Calls Try.prog 25 #[.slice A l.length c] w fun e w' => ∃ v, e = .returned v ∧ OwnL w' w.heap.size 58 2 v ((normS (memS l)).map rowN) ∧ Grew w w' := by
  have hz := zero_set
  go_enter Try.func25, Try.ntmps25
  go_wp2_with fail
  refine (of_any A c l w B hB (by omega) hr).mono ?_
  rintro e w1 ⟨rfl, g1⟩
  have hb := Blk.new w1 92 (boolArr fun _ => false) rfl
  go_wp2_with (refine wpList_store_blk rfl 92 _ _ rfl w1.heap.size (boolArr (memS l)) rfl rfl 92 _ hb (by rw [boolArr_size, boolArr_size]) (by rw [boolArr_size]; exact info_set) (boolArr_one _) ?_)
  refine (runs_any w1.heap.size (memS l) _ (hb.setRow _)).mono ?_
  rintro e w2 ⟨v, rfl, hown, g2⟩
  have hge : w.heap.size ≤ w1.heap.size := g1.size
  go_wp2_with fail
  go_ret
  exact ⟨v, rfl, hown.mono (by simp [World.setRow]; omega), by (repeat' first | (with_reducible exact Grew.refl _) | (with_reducible assumption) | (with_reducible refine Grew.alloc ?_ _) | (with_reducible refine Grew.drew ?_) | (with_reducible refine Grew.drewN ?_ _) | (with_reducible refine Grew.setRow ?_ (by first | (simp; done) | (simp; omega) | omega) _) | (with_reducible refine Grew.setCell ?_ (by first | (simp; done) | (simp; omega) | omega) _) | ((with_reducible apply Grew.trans); rotate_left; (with_reducible assumption)) | ((with_reducible apply Grew.turn); rotate_left; (with_reducible assumption); (focus (intro i hi; first | omega | (simp at hi; omega)))) | fail)⟩
end Go.Proofs.Ytnlaogneceanoaa
namespace Go.Proofs.Ytnlaogneceanoaa
set_option linter.unusedVariables false
set_option linter.unusedSimpArgs false
set_option linter.unusedSectionVars false
open Go.RowKit
set_option maxRecDepth 100000 in
theorem bit_any (b : Bool) (w : World) : Calls Try.prog 126 #[.bool b] w fun e w' => e = .returned (.int .i64 (if b then 1 else 0)) ∧ w = w' := by
  cases b
  all_goals
    go_enter Try.func126, Try.ntmps126
    go_wp2
    go_ret
    exact ⟨rfl, rfl⟩
theorem mix_step (k i : Nat) (r : Bool) (F : Nat → Bool) (h : F k = r) : (if i = k then r else if i < k then F i else false) = (if i < k + 1 then F i else false) := by
  by_cases hi : i = k
  · subst hi; rw [if_pos rfl, if_pos (by omega), h]
  · rw [if_neg hi]
    by_cases hk : i < k
    · rw [if_pos hk, if_pos (by omega)]
    · rw [if_neg hk, if_neg (by omega)]
def tbS (t : Bool × Bool × Bool × Bool) (x y : Bool) : Bool := if x then (if y then t.2.2.2 else t.2.2.1) else (if y then t.2.1 else t.1)
set_option maxRecDepth 100000 in
set_option maxHeartbeats 4000000 in
theorem mix_any (A1 A2 : Option Addr) (c1 c2 : Nat) (l1 l2 : List (Int × Int)) (t : Bool × Bool × Bool × Bool) (w : World) (B : Nat) (hB : B ≤ w.heap.size) (hl1 : l1.length ≤ 1000000) (hl2 : l2.length ≤ 1000000) (hr1 : RunsAt w B A1 l1) (hr2 : RunsAt w B A2 l2) :
    Calls Try.prog 116 #[.slice A1 l1.length c1, .slice A2 l2.length c2, .agg #[.bool t.1, .bool t.2.1, .bool t.2.2.1, .bool t.2.2.2]] w fun e w' => ∃ v, e = .returned v ∧ OwnL w' w.heap.size 58 2 v ((normS fun i => tbS t (memS l1 i) (memS l2 i)).map rowN) ∧ Grew w w' := by
  have hz := zero_set
  obtain ⟨t0, t1, t2, t3⟩ := t
  go_enter Try.func116, Try.ntmps116
  go_wp2_with fail
  refine (of_any A1 c1 l1 _ B (by simp; omega) (by omega) (hr1.keep hB (by (repeat' first | (with_reducible exact Grew.refl _) | (with_reducible assumption) | (with_reducible refine Grew.alloc ?_ _) | (with_reducible refine Grew.drew ?_) | (with_reducible refine Grew.drewN ?_ _) | (with_reducible refine Grew.setRow ?_ (by first | (simp; done) | (simp; omega) | omega) _) | (with_reducible refine Grew.setCell ?_ (by first | (simp; done) | (simp; omega) | omega) _) | ((with_reducible apply Grew.trans); rotate_left; (with_reducible assumption)) | ((with_reducible apply Grew.turn); rotate_left; (with_reducible assumption); (focus (intro i hi; first | omega | (simp at hi; omega)))) | fail)))).mono ?_
  rintro e w1 ⟨rfl, g1⟩
  have hg1 : Grew w w1 := by (repeat' first | (with_reducible exact Grew.refl _) | (with_reducible assumption) | (with_reducible refine Grew.alloc ?_ _) | (with_reducible refine Grew.drew ?_) | (with_reducible refine Grew.drewN ?_ _) | (with_reducible refine Grew.setRow ?_ (by first | (simp; done) | (simp; omega) | omega) _) | (with_reducible refine Grew.setCell ?_ (by first | (simp; done) | (simp; omega) | omega) _) | ((with_reducible apply Grew.trans); rotate_left; (with_reducible assumption)) | ((with_reducible apply Grew.turn); rotate_left; (with_reducible assumption); (focus (intro i hi; first | omega | (simp at hi; omega)))) | fail)
  have ht1 : Blk w1 w.heap.size 149 #[.bool t0, .bool t1, .bool t2, .bool t3] := (Blk.new w _ _ rfl).grew g1
  clear g1
  go_wp2_with fail
  refine (of_any A2 c2 l2 w1 B (Nat.le_trans hB hg1.size) (by omega) (hr2.keep hB hg1)).mono ?_
  rintro e w2 ⟨rfl, g2⟩
  have hg2 : Grew w w2 := hg1.trans g2
  have ht2 := ht1.grew g2
  have hws := hg2.size
  clear hg1 ht1 g2
  have hbx : Blk ((w2.alloc (.cells (boolArr fun _ => false) 92)).alloc (.cells (boolArr fun _ => false) 92)) w2.heap.size 92 (boolArr fun _ => false) := by (apply Blk.conv; (· (repeat' first | (with_reducible assumption) | (with_reducible apply Blk.setRow) | ((with_reducible apply Blk.farRow); rotate_left; (focus (first | (simp; done) | (simp; omega) | omega))) | (with_reducible apply Blk.drew) | (with_reducible apply Blk.drewN) | (with_reducible apply Blk.set_) | (with_reducible exact Blk.new _ _ _ (by first | rfl | (simp; done) | (simp; omega))) | (with_reducible apply Blk.alloc) | ((with_reducible apply Blk.far); rotate_left; (focus (first | (simp; done) | (simp; omega) | omega))) | ((with_reducible apply Blk.grew); rotate_left; (with_reducible assumption)) | ((with_reducible apply Blk.turned); rotate_left; (with_reducible assumption); (focus (first | (simp; done) | (simp; omega) | omega))) | fail)); (· rfl))
  have hby : Blk (((w2.alloc (.cells (boolArr fun _ => false) 92)).alloc (.cells (boolArr fun _ => false) 92)).setRow w2.heap.size (boolArr (memS l1))) (w2.heap.size + 1) 92 (boolArr fun _ => false) := by (apply Blk.conv; (· (repeat' first | (with_reducible assumption) | (with_reducible apply Blk.setRow) | ((with_reducible apply Blk.farRow); rotate_left; (focus (first | (simp; done) | (simp; omega) | omega))) | (with_reducible apply Blk.drew) | (with_reducible apply Blk.drewN) | (with_reducible apply Blk.set_) | (with_reducible exact Blk.new _ _ _ (by first | rfl | (simp; done) | (simp; omega))) | (with_reducible apply Blk.alloc) | ((with_reducible apply Blk.far); rotate_left; (focus (first | (simp; done) | (simp; omega) | omega))) | ((with_reducible apply Blk.grew); rotate_left; (with_reducible assumption)) | ((with_reducible apply Blk.turned); rotate_left; (with_reducible assumption); (focus (first | (simp; done) | (simp; omega) | omega))) | fail)); (· rfl))
  go_wp2_with (first | (refine wpList_store_blk rfl 92 _ _ rfl w2.heap.size (boolArr (memS l1)) rfl rfl 92 _ hbx (by rw [boolArr_size, boolArr_size]) (by rw [boolArr_size]; exact info_set) (boolArr_one _) ?_) | (refine wpList_store_blk rfl 92 _ _ rfl (w2.heap.size + 1) (boolArr (memS l2)) rfl rfl 92 _ hby (by rw [boolArr_size, boolArr_size]) (by rw [boolArr_size]; exact info_set) (boolArr_one _) ?_))
  have htx := ((((ht2.alloc (.cells (boolArr fun _ => false) 92)).alloc (.cells (boolArr fun _ => false) 92)).farRow (g' := w2.heap.size) (by have := ht2.lt; omega) (boolArr (memS l1))).farRow (g' := w2.heap.size + 1) (by have := ht2.lt; omega) (boolArr (memS l2))).alloc (.cells (boolArr fun _ => false) 92)
  have hgx : w.heap.size < w2.heap.size := ht2.lt
  go_loopg [16] 128 (fun gk i wr => ∃ k : Nat, k ≤ 128 ∧ gk = 128 - k ∧ i = .int .i64 k ∧ Blk wr w.heap.size 149 #[.bool t0, .bool t1, .bool t2, .bool t3] ∧ Blk wr w2.heap.size 92 (boolArr (memS l1)) ∧ Blk wr (w2.heap.size + 1) 92 (boolArr (memS l2)) ∧ Blk wr (w2.heap.size + 1 + 1) 92 (boolArr fun i => if i < k then tbS (t0, t1, t2, t3) (memS l1 i) (memS l2 i) else false) ∧ Grew w wr)
  case atStart => exact ⟨0, by omega, by omega, rfl, htx, by (apply Blk.conv; (· (repeat' first | (with_reducible assumption) | (with_reducible apply Blk.setRow) | ((with_reducible apply Blk.farRow); rotate_left; (focus (first | (simp; done) | (simp; omega) | omega))) | (with_reducible apply Blk.drew) | (with_reducible apply Blk.drewN) | (with_reducible apply Blk.set_) | (with_reducible exact Blk.new _ _ _ (by first | rfl | (simp; done) | (simp; omega))) | (with_reducible apply Blk.alloc) | ((with_reducible apply Blk.far); rotate_left; (focus (first | (simp; done) | (simp; omega) | omega))) | ((with_reducible apply Blk.grew); rotate_left; (with_reducible assumption)) | ((with_reducible apply Blk.turned); rotate_left; (with_reducible assumption); (focus (first | (simp; done) | (simp; omega) | omega))) | fail)); (· rfl)), by (apply Blk.conv; (· (repeat' first | (with_reducible assumption) | (with_reducible apply Blk.setRow) | ((with_reducible apply Blk.farRow); rotate_left; (focus (first | (simp; done) | (simp; omega) | omega))) | (with_reducible apply Blk.drew) | (with_reducible apply Blk.drewN) | (with_reducible apply Blk.set_) | (with_reducible exact Blk.new _ _ _ (by first | rfl | (simp; done) | (simp; omega))) | (with_reducible apply Blk.alloc) | ((with_reducible apply Blk.far); rotate_left; (focus (first | (simp; done) | (simp; omega) | omega))) | ((with_reducible apply Blk.grew); rotate_left; (with_reducible assumption)) | ((with_reducible apply Blk.turned); rotate_left; (with_reducible assumption); (focus (first | (simp; done) | (simp; omega) | omega))) | fail)); (· rfl)), by (apply Blk.conv; (· (repeat' first | (with_reducible assumption) | (with_reducible apply Blk.setRow) | ((with_reducible apply Blk.farRow); rotate_left; (focus (first | (simp; done) | (simp; omega) | omega))) | (with_reducible apply Blk.drew) | (with_reducible apply Blk.drewN) | (with_reducible apply Blk.set_) | (with_reducible exact Blk.new _ _ _ (by first | rfl | (simp; done) | (simp; omega))) | (with_reducible apply Blk.alloc) | ((with_reducible apply Blk.far); rotate_left; (focus (first | (simp; done) | (simp; omega) | omega))) | ((with_reducible apply Blk.grew); rotate_left; (with_reducible assumption)) | ((with_reducible apply Blk.turned); rotate_left; (with_reducible assumption); (focus (first | (simp; done) | (simp; omega) | omega))) | fail)); (· rfl)), by (repeat' first | (with_reducible exact Grew.refl _) | (with_reducible assumption) | (with_reducible refine Grew.alloc ?_ _) | (with_reducible refine Grew.drew ?_) | (with_reducible refine Grew.drewN ?_ _) | (with_reducible refine Grew.setRow ?_ (by first | (simp; done) | (simp; omega) | omega) _) | (with_reducible refine Grew.setCell ?_ (by first | (simp; done) | (simp; omega) | omega) _) | ((with_reducible apply Grew.trans); rotate_left; (with_reducible assumption)) | ((with_reducible apply Grew.turn); rotate_left; (with_reducible assumption); (focus (intro i hi; first | omega | (simp at hi; omega)))) | fail)⟩
  case round =>
    clear htx hbx hby ht2 hg2
    obtain ⟨k, hk, hgk, rfl, hbt, hbx, hby, hbs, hg⟩ := hrel
    have HGK := Lib.hid hgk
    clear hgk
    have hzs := hbs.lt
    by_cases hlt : k < 128
    · have cx := hbx.cell k
      rw [boolArr_get _ _ hlt] at cx
      have cy := hby.cell k
      rw [boolArr_get _ _ hlt] at cy
      have cs := hbs.cell k
      rw [boolArr_get _ _ hlt] at cs
      have fs := hbs.frozen k
      have q0 := hbt.cell 0
      have q1 := hbt.cell 1
      have q2 := hbt.cell 2
      have q3 := hbt.cell 3
      have hn1 : ¬ w.heap.size = w2.heap.size + 1 + 1 := by omega
      have hn2 : ¬ w2.heap.size + 1 + 1 = w.heap.size := by omega
      have hks : ∀ v, (wr.setCell ⟨w2.heap.size + 1 + 1, k, none⟩ v).cell? ⟨w2.heap.size, k, none⟩ = wr.cell? ⟨w2.heap.size, k, none⟩ := fun v => World.cell?_setCell_other _ _ _ _ (fun e => by injection e; omega)
      have hkn : (0 : Int) ≤ (k : Int) := by omega
      have hkn2 : (k : Int) < 128 := by omega
      rcases hX : memS l1 k with _ | _ <;> rcases hY : memS l2 k with _ | _
      · rw [hX] at cx
        rw [hY] at cy
        have HX := Lib.hid hX
        have HY := Lib.hid hY
        clear hX hY
        go_wp2_with fail
        go_region_held3 (fun w' => w'.cell? ⟨w2.heap.size, k, none⟩ = some (.bool false) ∧ w'.cell? ⟨w2.heap.size + 1, k, none⟩ = some (.bool false) ∧ w'.cell? ⟨w.heap.size, 0, none⟩ = some (.bool t0) ∧ w'.cell? ⟨w.heap.size, 1, none⟩ = some (.bool t1) ∧ w'.cell? ⟨w.heap.size, 2, none⟩ = some (.bool t2) ∧ w'.cell? ⟨w.heap.size, 3, none⟩ = some (.bool t3)) (go_keep) (first | (go_at_call 126; refine (bit_any _ _).mono ?_; rintro e w' ⟨rfl, rfl⟩))
        go_wp2_with fail
        go_roundg (128 - (k + 1))
        case measure => rw [HGK.out]; omega
        case rel => exact ⟨k + 1, by omega, by omega, by go_num, by (apply Blk.conv; (· (repeat' first | (with_reducible assumption) | (with_reducible apply Blk.setRow) | ((with_reducible apply Blk.farRow); rotate_left; (focus (first | (simp; done) | (simp; omega) | omega))) | (with_reducible apply Blk.drew) | (with_reducible apply Blk.drewN) | (with_reducible apply Blk.set_) | (with_reducible exact Blk.new _ _ _ (by first | rfl | (simp; done) | (simp; omega))) | (with_reducible apply Blk.alloc) | ((with_reducible apply Blk.far); rotate_left; (focus (first | (simp; done) | (simp; omega) | omega))) | ((with_reducible apply Blk.grew); rotate_left; (with_reducible assumption)) | ((with_reducible apply Blk.turned); rotate_left; (with_reducible assumption); (focus (first | (simp; done) | (simp; omega) | omega))) | fail)); (· rfl)), by (apply Blk.conv; (· (repeat' first | (with_reducible assumption) | (with_reducible apply Blk.setRow) | ((with_reducible apply Blk.farRow); rotate_left; (focus (first | (simp; done) | (simp; omega) | omega))) | (with_reducible apply Blk.drew) | (with_reducible apply Blk.drewN) | (with_reducible apply Blk.set_) | (with_reducible exact Blk.new _ _ _ (by first | rfl | (simp; done) | (simp; omega))) | (with_reducible apply Blk.alloc) | ((with_reducible apply Blk.far); rotate_left; (focus (first | (simp; done) | (simp; omega) | omega))) | ((with_reducible apply Blk.grew); rotate_left; (with_reducible assumption)) | ((with_reducible apply Blk.turned); rotate_left; (with_reducible assumption); (focus (first | (simp; done) | (simp; omega) | omega))) | fail)); (· rfl)), by (apply Blk.conv; (· (repeat' first | (with_reducible assumption) | (with_reducible apply Blk.setRow) | ((with_reducible apply Blk.farRow); rotate_left; (focus (first | (simp; done) | (simp; omega) | omega))) | (with_reducible apply Blk.drew) | (with_reducible apply Blk.drewN) | (with_reducible apply Blk.set_) | (with_reducible exact Blk.new _ _ _ (by first | rfl | (simp; done) | (simp; omega))) | (with_reducible apply Blk.alloc) | ((with_reducible apply Blk.far); rotate_left; (focus (first | (simp; done) | (simp; omega) | omega))) | ((with_reducible apply Blk.grew); rotate_left; (with_reducible assumption)) | ((with_reducible apply Blk.turned); rotate_left; (with_reducible assumption); (focus (first | (simp; done) | (simp; omega) | omega))) | fail)); (· rfl)), by (apply Blk.conv; (· (repeat' first | (with_reducible assumption) | (with_reducible apply Blk.setRow) | ((with_reducible apply Blk.farRow); rotate_left; (focus (first | (simp; done) | (simp; omega) | omega))) | (with_reducible apply Blk.drew) | (with_reducible apply Blk.drewN) | (with_reducible apply Blk.set_) | (with_reducible exact Blk.new _ _ _ (by first | rfl | (simp; done) | (simp; omega))) | (with_reducible apply Blk.alloc) | ((with_reducible apply Blk.far); rotate_left; (focus (first | (simp; done) | (simp; omega) | omega))) | ((with_reducible apply Blk.grew); rotate_left; (with_reducible assumption)) | ((with_reducible apply Blk.turned); rotate_left; (with_reducible assumption); (focus (first | (simp; done) | (simp; omega) | omega))) | fail)); (· rw [boolArr_set]; exact boolArr_congr fun i _ => mix_step k i t0 (fun i => tbS (t0, t1, t2, t3) (memS l1 i) (memS l2 i)) (by show tbS _ (memS l1 k) (memS l2 k) = _; rw [HX.out, HY.out]; rfl))), by (repeat' first | (with_reducible exact Grew.refl _) | (with_reducible assumption) | (with_reducible refine Grew.alloc ?_ _) | (with_reducible refine Grew.drew ?_) | (with_reducible refine Grew.drewN ?_ _) | (with_reducible refine Grew.setRow ?_ (by first | (simp; done) | (simp; omega) | omega) _) | (with_reducible refine Grew.setCell ?_ (by first | (simp; done) | (simp; omega) | omega) _) | ((with_reducible apply Grew.trans); rotate_left; (with_reducible assumption)) | ((with_reducible apply Grew.turn); rotate_left; (with_reducible assumption); (focus (intro i hi; first | omega | (simp at hi; omega)))) | fail)⟩
      · rw [hX] at cx
        rw [hY] at cy
        have HX := Lib.hid hX
        have HY := Lib.hid hY
        clear hX hY
        go_wp2_with fail
        go_region_held3 (fun w' => w'.cell? ⟨w2.heap.size, k, none⟩ = some (.bool false) ∧ w'.cell? ⟨w2.heap.size + 1, k, none⟩ = some (.bool true) ∧ w'.cell? ⟨w.heap.size, 0, none⟩ = some (.bool t0) ∧ w'.cell? ⟨w.heap.size, 1, none⟩ = some (.bool t1) ∧ w'.cell? ⟨w.heap.size, 2, none⟩ = some (.bool t2) ∧ w'.cell? ⟨w.heap.size, 3, none⟩ = some (.bool t3)) (go_keep) (first | (go_at_call 126; refine (bit_any _ _).mono ?_; rintro e w' ⟨rfl, rfl⟩))
        go_wp2_with fail
        go_roundg (128 - (k + 1))
        case measure => rw [HGK.out]; omega
        case rel => exact ⟨k + 1, by omega, by omega, by go_num, by (apply Blk.conv; (· (repeat' first | (with_reducible assumption) | (with_reducible apply Blk.setRow) | ((with_reducible apply Blk.farRow); rotate_left; (focus (first | (simp; done) | (simp; omega) | omega))) | (with_reducible apply Blk.drew) | (with_reducible apply Blk.drewN) | (with_reducible apply Blk.set_) | (with_reducible exact Blk.new _ _ _ (by first | rfl | (simp; done) | (simp; omega))) | (with_reducible apply Blk.alloc) | ((with_reducible apply Blk.far); rotate_left; (focus (first | (simp; done) | (simp; omega) | omega))) | ((with_reducible apply Blk.grew); rotate_left; (with_reducible assumption)) | ((with_reducible apply Blk.turned); rotate_left; (with_reducible assumption); (focus (first | (simp; done) | (simp; omega) | omega))) | fail)); (· rfl)), by (apply Blk.conv; (· (repeat' first | (with_reducible assumption) | (with_reducible apply Blk.setRow) | ((with_reducible apply Blk.farRow); rotate_left; (focus (first | (simp; done) | (simp; omega) | omega))) | (with_reducible apply Blk.drew) | (with_reducible apply Blk.drewN) | (with_reducible apply Blk.set_) | (with_reducible exact Blk.new _ _ _ (by first | rfl | (simp; done) | (simp; omega))) | (with_reducible apply Blk.alloc) | ((with_reducible apply Blk.far); rotate_left; (focus (first | (simp; done) | (simp; omega) | omega))) | ((with_reducible apply Blk.grew); rotate_left; (with_reducible assumption)) | ((with_reducible apply Blk.turned); rotate_left; (with_reducible assumption); (focus (first | (simp; done) | (simp; omega) | omega))) | fail)); (· rfl)), by (apply Blk.conv; (· (repeat' first | (with_reducible assumption) | (with_reducible apply Blk.setRow) | ((with_reducible apply Blk.farRow); rotate_left; (focus (first | (simp; done) | (simp; omega) | omega))) | (with_reducible apply Blk.drew) | (with_reducible apply Blk.drewN) | (with_reducible apply Blk.set_) | (with_reducible exact Blk.new _ _ _ (by first | rfl | (simp; done) | (simp; omega))) | (with_reducible apply Blk.alloc) | ((with_reducible apply Blk.far); rotate_left; (focus (first | (simp; done) | (simp; omega) | omega))) | ((with_reducible apply Blk.grew); rotate_left; (with_reducible assumption)) | ((with_reducible apply Blk.turned); rotate_left; (with_reducible assumption); (focus (first | (simp; done) | (simp; omega) | omega))) | fail)); (· rfl)), by (apply Blk.conv; (· (repeat' first | (with_reducible assumption) | (with_reducible apply Blk.setRow) | ((with_reducible apply Blk.farRow); rotate_left; (focus (first | (simp; done) | (simp; omega) | omega))) | (with_reducible apply Blk.drew) | (with_reducible apply Blk.drewN) | (with_reducible apply Blk.set_) | (with_reducible exact Blk.new _ _ _ (by first | rfl | (simp; done) | (simp; omega))) | (with_reducible apply Blk.alloc) | ((with_reducible apply Blk.far); rotate_left; (focus (first | (simp; done) | (simp; omega) | omega))) | ((with_reducible apply Blk.grew); rotate_left; (with_reducible assumption)) | ((with_reducible apply Blk.turned); rotate_left; (with_reducible assumption); (focus (first | (simp; done) | (simp; omega) | omega))) | fail)); (· rw [boolArr_set]; exact boolArr_congr fun i _ => mix_step k i t1 (fun i => tbS (t0, t1, t2, t3) (memS l1 i) (memS l2 i)) (by show tbS _ (memS l1 k) (memS l2 k) = _; rw [HX.out, HY.out]; rfl))), by (repeat' first | (with_reducible exact Grew.refl _) | (with_reducible assumption) | (with_reducible refine Grew.alloc ?_ _) | (with_reducible refine Grew.drew ?_) | (with_reducible refine Grew.drewN ?_ _) | (with_reducible refine Grew.setRow ?_ (by first | (simp; done) | (simp; omega) | omega) _) | (with_reducible refine Grew.setCell ?_ (by first | (simp; done) | (simp; omega) | omega) _) | ((with_reducible apply Grew.trans); rotate_left; (with_reducible assumption)) | ((with_reducible apply Grew.turn); rotate_left; (with_reducible assumption); (focus (intro i hi; first | omega | (simp at hi; omega)))) | fail)⟩
      · rw [hX] at cx
        rw [hY] at cy
        have HX := Lib.hid hX
        have HY := Lib.hid hY
        clear hX hY
        go_wp2_with fail
        go_region_held3 (fun w' => w'.cell? ⟨w2.heap.size, k, none⟩ = some (.bool true) ∧ w'.cell? ⟨w2.heap.size + 1, k, none⟩ = some (.bool false) ∧ w'.cell? ⟨w.heap.size, 0, none⟩ = some (.bool t0) ∧ w'.cell? ⟨w.heap.size, 1, none⟩ = some (.bool t1) ∧ w'.cell? ⟨w.heap.size, 2, none⟩ = some (.bool t2) ∧ w'.cell? ⟨w.heap.size, 3, none⟩ = some (.bool t3)) (go_keep) (first | (go_at_call 126; refine (bit_any _ _).mono ?_; rintro e w' ⟨rfl, rfl⟩))
        go_wp2_with fail
        go_roundg (128 - (k + 1))
        case measure => rw [HGK.out]; omega
        case rel => exact ⟨k + 1, by omega, by omega, by go_num, by (apply Blk.conv; (· (repeat' first | (with_reducible assumption) | (with_reducible apply Blk.setRow) | ((with_reducible apply Blk.farRow); rotate_left; (focus (first | (simp; done) | (simp; omega) | omega))) | (with_reducible apply Blk.drew) | (with_reducible apply Blk.drewN) | (with_reducible apply Blk.set_) | (with_reducible exact Blk.new _ _ _ (by first | rfl | (simp; done) | (simp; omega))) | (with_reducible apply Blk.alloc) | ((with_reducible apply Blk.far); rotate_left; (focus (first | (simp; done) | (simp; omega) | omega))) | ((with_reducible apply Blk.grew); rotate_left; (with_reducible assumption)) | ((with_reducible apply Blk.turned); rotate_left; (with_reducible assumption); (focus (first | (simp; done) | (simp; omega) | omega))) | fail)); (· rfl)), by (apply Blk.conv; (· (repeat' first | (with_reducible assumption) | (with_reducible apply Blk.setRow) | ((with_reducible apply Blk.farRow); rotate_left; (focus (first | (simp; done) | (simp; omega) | omega))) | (with_reducible apply Blk.drew) | (with_reducible apply Blk.drewN) | (with_reducible apply Blk.set_) | (with_reducible exact Blk.new _ _ _ (by first | rfl | (simp; done) | (simp; omega))) | (with_reducible apply Blk.alloc) | ((with_reducible apply Blk.far); rotate_left; (focus (first | (simp; done) | (simp; omega) | omega))) | ((with_reducible apply Blk.grew); rotate_left; (with_reducible assumption)) | ((with_reducible apply Blk.turned); rotate_left; (with_reducible assumption); (focus (first | (simp; done) | (simp; omega) | omega))) | fail)); (· rfl)), by (apply Blk.conv; (· (repeat' first | (with_reducible assumption) | (with_reducible apply Blk.setRow) | ((with_reducible apply Blk.farRow); rotate_left; (focus (first | (simp; done) | (simp; omega) | omega))) | (with_reducible apply Blk.drew) | (with_reducible apply Blk.drewN) | (with_reducible apply Blk.set_) | (with_reducible exact Blk.new _ _ _ (by first | rfl | (simp; done) | (simp; omega))) | (with_reducible apply Blk.alloc) | ((with_reducible apply Blk.far); rotate_left; (focus (first | (simp; done) | (simp; omega) | omega))) | ((with_reducible apply Blk.grew); rotate_left; (with_reducible assumption)) | ((with_reducible apply Blk.turned); rotate_left; (with_reducible assumption); (focus (first | (simp; done) | (simp; omega) | omega))) | fail)); (· rfl)), by (apply Blk.conv; (· (repeat' first | (with_reducible assumption) | (with_reducible apply Blk.setRow) | ((with_reducible apply Blk.farRow); rotate_left; (focus (first | (simp; done) | (simp; omega) | omega))) | (with_reducible apply Blk.drew) | (with_reducible apply Blk.drewN) | (with_reducible apply Blk.set_) | (with_reducible exact Blk.new _ _ _ (by first | rfl | (simp; done) | (simp; omega))) | (with_reducible apply Blk.alloc) | ((with_reducible apply Blk.far); rotate_left; (focus (first | (simp; done) | (simp; omega) | omega))) | ((with_reducible apply Blk.grew); rotate_left; (with_reducible assumption)) | ((with_reducible apply Blk.turned); rotate_left; (with_reducible assumption); (focus (first | (simp; done) | (simp; omega) | omega))) | fail)); (· rw [boolArr_set]; exact boolArr_congr fun i _ => mix_step k i t2 (fun i => tbS (t0, t1, t2, t3) (memS l1 i) (memS l2 i)) (by show tbS _ (memS l1 k) (memS l2 k) = _; rw [HX.out, HY.out]; rfl))), by (repeat' first | (with_reducible exact Grew.refl _) | (with_reducible assumption) | (with_reducible refine Grew.alloc ?_ _) | (with_reducible refine Grew.drew ?_) | (with_reducible refine Grew.drewN ?_ _) | (with_reducible refine Grew.setRow ?_ (by first | (simp; done) | (simp; omega) | omega) _) | (with_reducible refine Grew.setCell ?_ (by first | (simp; done) | (simp; omega) | omega) _) | ((with_reducible apply Grew.trans); rotate_left; (with_reducible assumption)) | ((with_reducible apply Grew.turn); rotate_left; (with_reducible assumption); (focus (intro i hi; first | omega | (simp at hi; omega)))) | fail)⟩
      · rw [hX] at cx
        rw [hY] at cy
        have HX := Lib.hid hX
        have HY := Lib.hid hY
        clear hX hY
        go_wp2_with fail
        go_region_held3 (fun w' => w'.cell? ⟨w2.heap.size, k, none⟩ = some (.bool true) ∧ w'.cell? ⟨w2.heap.size + 1, k, none⟩ = some (.bool true) ∧ w'.cell? ⟨w.heap.size, 0, none⟩ = some (.bool t0) ∧ w'.cell? ⟨w.heap.size, 1, none⟩ = some (.bool t1) ∧ w'.cell? ⟨w.heap.size, 2, none⟩ = some (.bool t2) ∧ w'.cell? ⟨w.heap.size, 3, none⟩ = some (.bool t3)) (go_keep) (first | (go_at_call 126; refine (bit_any _ _).mono ?_; rintro e w' ⟨rfl, rfl⟩))
        go_wp2_with fail
        go_roundg (128 - (k + 1))
        case measure => rw [HGK.out]; omega
        case rel => exact ⟨k + 1, by omega, by omega, by go_num, by (apply Blk.conv; (· (repeat' first | (with_reducible assumption) | (with_reducible apply Blk.setRow) | ((with_reducible apply Blk.farRow); rotate_left; (focus (first | (simp; done) | (simp; omega) | omega))) | (with_reducible apply Blk.drew) | (with_reducible apply Blk.drewN) | (with_reducible apply Blk.set_) | (with_reducible exact Blk.new _ _ _ (by first | rfl | (simp; done) | (simp; omega))) | (with_reducible apply Blk.alloc) | ((with_reducible apply Blk.far); rotate_left; (focus (first | (simp; done) | (simp; omega) | omega))) | ((with_reducible apply Blk.grew); rotate_left; (with_reducible assumption)) | ((with_reducible apply Blk.turned); rotate_left; (with_reducible assumption); (focus (first | (simp; done) | (simp; omega) | omega))) | fail)); (· rfl)), by (apply Blk.conv; (· (repeat' first | (with_reducible assumption) | (with_reducible apply Blk.setRow) | ((with_reducible apply Blk.farRow); rotate_left; (focus (first | (simp; done) | (simp; omega) | omega))) | (with_reducible apply Blk.drew) | (with_reducible apply Blk.drewN) | (with_reducible apply Blk.set_) | (with_reducible exact Blk.new _ _ _ (by first | rfl | (simp; done) | (simp; omega))) | (with_reducible apply Blk.alloc) | ((with_reducible apply Blk.far); rotate_left; (focus (first | (simp; done) | (simp; omega) | omega))) | ((with_reducible apply Blk.grew); rotate_left; (with_reducible assumption)) | ((with_reducible apply Blk.turned); rotate_left; (with_reducible assumption); (focus (first | (simp; done) | (simp; omega) | omega))) | fail)); (· rfl)), by (apply Blk.conv; (· (repeat' first | (with_reducible assumption) | (with_reducible apply Blk.setRow) | ((with_reducible apply Blk.farRow); rotate_left; (focus (first | (simp; done) | (simp; omega) | omega))) | (with_reducible apply Blk.drew) | (with_reducible apply Blk.drewN) | (with_reducible apply Blk.set_) | (with_reducible exact Blk.new _ _ _ (by first | rfl | (simp; done) | (simp; omega))) | (with_reducible apply Blk.alloc) | ((with_reducible apply Blk.far); rotate_left; (focus (first | (simp; done) | (simp; omega) | omega))) | ((with_reducible apply Blk.grew); rotate_left; (with_reducible assumption)) | ((with_reducible apply Blk.turned); rotate_left; (with_reducible assumption); (focus (first | (simp; done) | (simp; omega) | omega))) | fail)); (· rfl)), by (apply Blk.conv; (· (repeat' first | (with_reducible assumption) | (with_reducible apply Blk.setRow) | ((with_reducible apply Blk.farRow); rotate_left; (focus (first | (simp; done) | (simp; omega) | omega))) | (with_reducible apply Blk.drew) | (with_reducible apply Blk.drewN) | (with_reducible apply Blk.set_) | (with_reducible exact Blk.new _ _ _ (by first | rfl | (simp; done) | (simp; omega))) | (with_reducible apply Blk.alloc) | ((with_reducible apply Blk.far); rotate_left; (focus (first | (simp; done) | (simp; omega) | omega))) | ((with_reducible apply Blk.grew); rotate_left; (with_reducible assumption)) | ((with_reducible apply Blk.turned); rotate_left; (with_reducible assumption); (focus (first | (simp; done) | (simp; omega) | omega))) | fail)); (· rw [boolArr_set]; exact boolArr_congr fun i _ => mix_step k i t3 (fun i => tbS (t0, t1, t2, t3) (memS l1 i) (memS l2 i)) (by show tbS _ (memS l1 k) (memS l2 k) = _; rw [HX.out, HY.out]; rfl))), by (repeat' first | (with_reducible exact Grew.refl _) | (with_reducible assumption) | (with_reducible refine Grew.alloc ?_ _) | (with_reducible refine Grew.drew ?_) | (with_reducible refine Grew.drewN ?_ _) | (with_reducible refine Grew.setRow ?_ (by first | (simp; done) | (simp; omega) | omega) _) | (with_reducible refine Grew.setCell ?_ (by first | (simp; done) | (simp; omega) | omega) _) | ((with_reducible apply Grew.trans); rotate_left; (with_reducible assumption)) | ((with_reducible apply Grew.turn); rotate_left; (with_reducible assumption); (focus (intro i hi; first | omega | (simp at hi; omega)))) | fail)⟩
    · obtain rfl : k = 128 := by omega
      have hbs' : Blk wr (w2.heap.size + 1 + 1) 92 (boolArr fun i => tbS (t0, t1, t2, t3) (memS l1 i) (memS l2 i)) := by (apply Blk.conv; (· (repeat' first | (with_reducible assumption) | (with_reducible apply Blk.setRow) | ((with_reducible apply Blk.farRow); rotate_left; (focus (first | (simp; done) | (simp; omega) | omega))) | (with_reducible apply Blk.drew) | (with_reducible apply Blk.drewN) | (with_reducible apply Blk.set_) | (with_reducible exact Blk.new _ _ _ (by first | rfl | (simp; done) | (simp; omega))) | (with_reducible apply Blk.alloc) | ((with_reducible apply Blk.far); rotate_left; (focus (first | (simp; done) | (simp; omega) | omega))) | ((with_reducible apply Blk.grew); rotate_left; (with_reducible assumption)) | ((with_reducible apply Blk.turned); rotate_left; (with_reducible assumption); (focus (first | (simp; done) | (simp; omega) | omega))) | fail)); (· exact boolArr_congr fun i hi => if_pos hi))
      go_wp2_with fail
      refine (runs_any (w2.heap.size + 1 + 1) _ wr hbs').mono ?_
      rintro e w3 ⟨v, rfl, hown, g3⟩
      go_wp2_with fail
      go_ret
      exact ⟨v, rfl, hown.mono hg.size, by (repeat' first | (with_reducible exact Grew.refl _) | (with_reducible assumption) | (with_reducible refine Grew.alloc ?_ _) | (with_reducible refine Grew.drew ?_) | (with_reducible refine Grew.drewN ?_ _) | (with_reducible refine Grew.setRow ?_ (by first | (simp; done) | (simp; omega) | omega) _) | (with_reducible refine Grew.setCell ?_ (by first | (simp; done) | (simp; omega) | omega) _) | ((with_reducible apply Grew.trans); rotate_left; (with_reducible assumption)) | ((with_reducible apply Grew.turn); rotate_left; (with_reducible assumption); (focus (intro i hi; first | omega | (simp at hi; omega)))) | fail)⟩
set_option maxRecDepth 100000 in
set_option maxHeartbeats 4000000 in
theorem minus_any (A1 A2 : Option Addr) (c1 c2 : Nat) (l1 l2 : List (Int × Int)) (w : World) (B : Nat) (hB : B ≤ w.heap.size) (hl1 : l1.length ≤ 1000000) (hl2 : l2.length ≤ 1000000) (hr1 : RunsAt w B A1 l1) (hr2 : RunsAt w B A2 l2) :
    Calls Try.prog 92 #[.slice A1 l1.length c1, .slice A2 l2.length c2] w fun e w' => ∃ v, e = .returned v ∧ OwnL w' w.heap.size 58 2 v ((normS fun i => memS l1 i && !memS l2 i).map rowN) ∧ Grew w w' := by
  have hC := mix_any A1 A2 c1 c2 l1 l2 (false, false, true, false) w B hB hl1 hl2 hr1 hr2
  have hf : (fun i => tbS (false, false, true, false) (memS l1 i) (memS l2 i)) = fun i => memS l1 i && !memS l2 i := by
    funext i
    cases memS l1 i <;> cases memS l2 i <;> rfl
  rw [hf] at hC
  have HC := Lib.hid hC
  clear hC
  go_enter Try.func92, Try.ntmps92
  go_wp2_with fail
  refine HC.out.mono ?_
  rintro e w1 ⟨v, rfl, hown, g1⟩
  go_wp2_with fail
  go_ret
  exact ⟨v, rfl, hown, g1⟩
end Go.Proofs.Ytnlaogneceanoaa
namespace Go.Proofs.Ytnlaogneceanoaa
set_option linter.unusedVariables false
set_option linter.unusedSimpArgs false
set_option linter.unusedSectionVars false
open Go.RowKit
def inT (l : List (Int × Int)) (t : Int) : Bool := l.any fun r => decide (((clipS r).1 : Int) ≤ t ∧ t < ((clipS r).1 : Int) + (clipS r).2)
theorem inT_nat (l : List (Int × Int)) (i : Nat) : inT l i = memS l i := by
  unfold inT memS
  congr 1
  funext r
  unfold inS
  rw [decide_eq_decide]
  omega
section
variable (A : Option Addr) (c : Nat) (l : List (Int × Int)) (w : World) (B : Nat) (hB : B ≤ w.heap.size) (hl : l.length ≤ 1000000) (hr : RunsAt w B A l)
include hB hl hr
set_option maxRecDepth 100000 in
set_option maxHeartbeats 4000000 in
theorem disjoint_any : Calls Try.prog 11 #[.slice A l.length c] w fun e w' => e = .returned (.bool ((sizeS l : Int) == (sizeS (ints (normS (memS l))) : Int))) ∧ Grew w w' := by
  go_enter Try.func11, Try.ntmps11
  go_wp2_with fail
  refine (size_any A c l w B hB hl hr).mono ?_
  rintro e w1 ⟨rfl, g1⟩
  go_wp2_with fail
  refine (normal_any A c l w1 B (Nat.le_trans hB g1.size) hl (hr.keep hB g1)).mono ?_
  rintro e w2 ⟨v, rfl, hown, g2⟩
  obtain ⟨A', c', hv, hr'⟩ := own_runs hown (fun r hr => Nat.le_trans (normTo_bd _ _ r hr) (by omega))
  subst hv
  have hle : (normS (memS l)).length ≤ 128 := normTo_len _ _
  go_wp2_with fail
  refine (size_any A' c' _ w2 w2.heap.size (Nat.le_refl _) (by rw [ints_len]; omega) hr').mono ?_
  rintro e w3 ⟨rfl, g3⟩
  go_wp2_with fail
  go_ret
  exact ⟨rfl, g1.trans (g2.trans g3)⟩
end
end Go.Proofs.Ytnlaogneceanoaa
namespace Go.Proofs.Ytnlaogneceanoaa
set_option linter.unusedVariables false
set_option linter.unusedSimpArgs false
set_option linter.unusedSectionVars false
open Go.RowKit
theorem normTo_congr {S T : Nat → Bool} : ∀ k, (∀ i, i < k → S i = T i) → normTo S k = normTo T k := by
  intro k
  induction k with
  | zero => intro _; rfl
  | succ k ih =>
    intro h
    rw [normTo, normTo, ih (fun i hi => h i (by omega)), stepN, stepN, h k (by omega)]
    by_cases hk : 0 < k
    · rw [h (k - 1) (by omega)]
    · have e1 : ¬ (0 < k ∧ S (k - 1) = true) := fun h => hk h.1
      have e2 : ¬ (0 < k ∧ T (k - 1) = true) := fun h => hk h.1
      rw [if_neg e1, if_neg e2]
end Go.Proofs.Ytnlaogneceanoaa
namespace Go.Proofs.Ytnlaogneceanoaa
set_option linter.unusedVariables false
set_option linter.unusedSimpArgs false
set_option linter.unusedSectionVars false
open Go.RowKit
def stepJ (acc : List (Nat × Nat)) (r : Nat × Nat) : List (Nat × Nat) :=
  if r.2 = 0 then acc
  else if acc ≠ [] ∧ (acc.getD (acc.length - 1) (0, 0)).1 + (acc.getD (acc.length - 1) (0, 0)).2 = r.1 then acc.set (acc.length - 1) ((acc.getD (acc.length - 1) (0, 0)).1, (acc.getD (acc.length - 1) (0, 0)).2 + r.2)
  else acc ++ [r]
def joinS (l : List (Int × Int)) : List (Nat × Nat) := l.foldl (fun acc x => stepJ acc (clipS x)) []
theorem joinS_snoc (l : List (Int × Int)) (k : Nat) (h : k < l.length) : joinS (l.take (k + 1)) = stepJ (joinS (l.take k)) (clipS l[k]) := by
  unfold joinS
  rw [List.take_succ_eq_append_getElem h, List.foldl_append]
  rfl
theorem stepJ_len (acc : List (Nat × Nat)) (r : Nat × Nat) : (stepJ acc r).length ≤ acc.length + 1 := by
  unfold stepJ; repeat' split
  · omega
  · rw [List.length_set]; omega
  · simp
theorem stepJ_bd (acc : List (Nat × Nat)) (r : Nat × Nat) (h : ∀ x ∈ acc, x.1 + x.2 ≤ 128) (hr : r.1 + r.2 ≤ 128) : ∀ x ∈ stepJ acc r, x.1 + x.2 ≤ 128 := by
  intro x hx
  unfold stepJ at hx
  split at hx
  · exact h x hx
  · split at hx
    · rename_i hj
      rcases List.mem_or_eq_of_mem_set hx with hx | rfl
      · exact h x hx
      · simp only []; omega
    · rcases List.mem_append.1 hx with hx | hx
      · exact h x hx
      · rw [List.mem_singleton.1 hx]; exact hr
theorem joinS_inv (l : List (Int × Int)) : ∀ acc : List (Nat × Nat), (∀ x ∈ acc, x.1 + x.2 ≤ 128) → (∀ x ∈ l.foldl (fun acc x => stepJ acc (clipS x)) acc, x.1 + x.2 ≤ 128) ∧ (l.foldl (fun acc x => stepJ acc (clipS x)) acc).length ≤ acc.length + l.length := by
  induction l with
  | nil => intro acc h; exact ⟨h, by simp⟩
  | cons r l ih =>
    intro acc h
    have h1 := ih (stepJ acc (clipS r)) (stepJ_bd acc _ h (clipS_le r))
    have h2 := stepJ_len acc (clipS r)
    refine ⟨h1.1, ?_⟩
    have := h1.2
    simp only [List.foldl_cons, List.length_cons]
    omega
theorem joinS_bd (l : List (Int × Int)) : ∀ x ∈ joinS l, x.1 + x.2 ≤ 128 := (joinS_inv l [] (by simp)).1
theorem joinS_len (l : List (Int × Int)) : (joinS l).length ≤ l.length := by have := (joinS_inv l [] (by simp)).2; rw [List.length_nil, Nat.zero_add] at this; exact this
theorem rows_set' (l : List (Nat × Nat)) (j : Nat) (a b b' : Nat) : (l.map rowN).set j ((rowN (a, b)).set 1 (.int .i64 (b' : Int))) = (l.set j (a, b')).map rowN := by
  rw [List.map_set]; rfl
set_option maxRecDepth 100000 in
set_option maxHeartbeats 8000000 in
theorem join_any (A : Option Addr) (c : Nat) (l : List (Int × Int)) (w : World) (B : Nat) (hB : B ≤ w.heap.size) (hl : l.length ≤ 1000000) (hr : RunsAt w B A l) :
    Calls Try.prog 78 #[.slice A l.length c] w fun e w' => ∃ v, e = .returned v ∧ OwnL w' w.heap.size 58 2 v ((joinS l).map rowN) ∧ Grew w w' := by
  have HR := Lib.hid hr
  clear hr
  go_enter Try.func78, Try.ntmps78
  go_wp2_with fail
  go_loopg [3, 9] l.length (fun gk v i wr => ∃ k : Nat, k ≤ l.length ∧ gk = l.length - k ∧ i = .int .i64 k ∧ OwnL wr w.heap.size 58 2 v ((joinS (l.take k)).map rowN) ∧ Grew w wr)
  case atStart => exact ⟨0, by omega, by omega, rfl, OwnL.nil _ _ _ _, by (repeat' first | (with_reducible exact Grew.refl _) | (with_reducible assumption) | (with_reducible refine Grew.alloc ?_ _) | (with_reducible refine Grew.drew ?_) | (with_reducible refine Grew.drewN ?_ _) | (with_reducible refine Grew.setRow ?_ (by first | (simp; done) | (simp; omega) | omega) _) | (with_reducible refine Grew.setCell ?_ (by first | (simp; done) | (simp; omega) | omega) _) | ((with_reducible apply Grew.trans); rotate_left; (with_reducible assumption)) | ((with_reducible apply Grew.turn); rotate_left; (with_reducible assumption); (focus (intro i hi; first | omega | (simp at hi; omega)))) | fail)⟩
  case round =>
    obtain ⟨k, hk, hgk, rfl, hown, hg⟩ := hrel
    have HGK := Lib.hid hgk
    clear hgk
    by_cases hlt : k < l.length
    · obtain ⟨b, off, f, c, rfl, hb, hlk, ⟨f0, f1, c0, c1⟩, x0, x1⟩ := (HR.out.keep hB hg).at_ hlt
      simp only at f0 f1 c0 c1
      have hbs : b < wr.heap.size := by have := hg.size; omega
      have hws := hg.size
      have hle := clipS_le (f, c)
      have hsn := joinS_snoc l k hlt
      rw [hlk] at hsn
      have HN := Lib.hid hsn
      have hjl := joinS_len (l.take k)
      have hjl2 : (l.take k).length ≤ 1000000 := Nat.le_trans (List.length_take_le _ _) (by omega)
      have HJ := Lib.hid (joinS_bd (l.take k))
      clear hlk hsn
      have HC := fun W => Lib.hid (clip_any f c W f0 f1 c0 c1)
      generalize clipS (f, c) = r at *
      obtain ⟨lo, n⟩ := r
      generalize joinS (l.take k) = acc at *
      simp only at hle
      obtain ⟨Av, cv, hv, hcv1, hcv2, -⟩ := hown.listAt
      rw [List.length_map] at hv hcv1
      subst hv
      have hal : acc.length ≤ 1000000 := by omega
      by_cases hacc : acc = []
      · subst hacc
        have hne : (Value.slice Av ([] : List (Nat × Nat)).length cv).ownBlock ≠ some wr.heap.size := fun h => by have := (hown.own_ge h).2; omega
        go_wp2_with fail
        refine (HC _).out.mono ?_
        rintro e w1 ⟨rfl, g1⟩
        have hz1 : wr.heap.size < w1.heap.size := by have := g1.size; simp at this; omega
        have hr1 : Blk w1 wr.heap.size 58 #[.int .i64 f, .int .i64 c] := (Blk.new wr _ _ rfl).grew g1
        have hown1 := (hown.alloc (.cells #[.int .i64 f, .int .i64 c] 58)).grew g1
        have hg1 : Grew w w1 := by (repeat' first | (with_reducible exact Grew.refl _) | (with_reducible assumption) | (with_reducible refine Grew.alloc ?_ _) | (with_reducible refine Grew.drew ?_) | (with_reducible refine Grew.drewN ?_ _) | (with_reducible refine Grew.setRow ?_ (by first | (simp; done) | (simp; omega) | omega) _) | (with_reducible refine Grew.setCell ?_ (by first | (simp; done) | (simp; omega) | omega) _) | ((with_reducible apply Grew.trans); rotate_left; (with_reducible assumption)) | ((with_reducible apply Grew.turn); rotate_left; (with_reducible assumption); (focus (intro i hi; first | omega | (simp at hi; omega)))) | fail)
        have r0 := hr1.cell 0
        have r1 := hr1.cell 1
        have rf0 := hr1.frozen 0
        have rf1 := hr1.frozen 1
        clear g1
        have hown2 := (hown1.far (p := ⟨wr.heap.size, 0, none⟩) hne (.int .i64 (lo : Int))).far (p := ⟨wr.heap.size, 1, none⟩) hne (.int .i64 (n : Int))
        have hg2 : Grew w ((w1.setCell ⟨wr.heap.size, 0, none⟩ (.int .i64 (lo : Int))).setCell ⟨wr.heap.size, 1, none⟩ (.int .i64 (n : Int))) := by (repeat' first | (with_reducible exact Grew.refl _) | (with_reducible assumption) | (with_reducible refine Grew.alloc ?_ _) | (with_reducible refine Grew.drew ?_) | (with_reducible refine Grew.drewN ?_ _) | (with_reducible refine Grew.setRow ?_ (by first | (simp; done) | (simp; omega) | omega) _) | (with_reducible refine Grew.setCell ?_ (by first | (simp; done) | (simp; omega) | omega) _) | ((with_reducible apply Grew.trans); rotate_left; (with_reducible assumption)) | ((with_reducible apply Grew.turn); rotate_left; (with_reducible assumption); (focus (intro i hi; first | omega | (simp at hi; omega)))) | fail)
        by_cases hn : n = 0
        · have hb0 : ((n : Int) == 0) = true := beq_iff_eq.2 (by omega)
          have HF := Lib.hid (HN.out.trans (by rw [stepJ, if_pos (by simp [hn])]))
          clear hn
          go_wp2_with fail
          go_roundg (l.length - (k + 1))
          case measure => rw [HGK.out]; omega
          case rel => exact ⟨k + 1, by omega, by omega, by go_num, by rw [HF.out]; exact hown2, hg2⟩
        · have hb0 : ((n : Int) == 0) = false := beq_eq_false_iff_ne.2 (by omega)
          have HF := Lib.hid (HN.out.trans (show stepJ [] (lo, n) = [] ++ [(lo, n)] by rw [stepJ, if_neg (by simpa using hn), if_neg (fun h => h.1 rfl)]))
          clear hn
          go_wp2_with fail
          go_quiet (fail)
          go_wp2_with (at_builtin; refine wpList_push rfl _ _ 22 rfl w.heap.size 58 2 16 _ Try.underlying22 info_run rfl (by decide) (((w1.setCell ⟨wr.heap.size, 0, none⟩ (.int .i64 (lo : Int))).setCell ⟨wr.heap.size, 1, none⟩ (.int .i64 (n : Int))).drewN nq) _ (([] : List (Nat × Nat)).map rowN) (rowN (lo, n)) (by rfl) rfl rfl (hown2.drewN nq) (by first | rfl | (simp; done)) rfl rfl (by simp) (by simp) hg2.size ?_; intro v' w3 hown3 hgr hbk hsz)
          go_roundg (l.length - (k + 1))
          case measure => rw [HGK.out]; omega
          case rel => exact ⟨k + 1, by omega, by omega, by go_num, by rw [HF.out, List.map_append]; exact hown3, hgr _ (hg2.drewN nq) (Nat.le_refl _)⟩
      · have hapos : 0 < acc.length := List.length_pos_iff.2 hacc
        rcases hown.form with ⟨_, h0⟩ | ⟨gv, cap, hv, hbg, hgv, _, _⟩
        · exfalso; have := congrArg List.length h0; simp at this; exact hacc this
        · injection hv with hv1 hv2 hv3
          subst hv1
          clear hv2 hv3
          have hlast : acc[acc.length - 1]? = some (acc.getD (acc.length - 1) (0, 0)) := by
            rw [getD_at _ _ (by omega)]; exact List.getElem?_eq_getElem (by omega)
          have hin := HJ.out _ (List.mem_of_getElem? hlast)
          have hst : n ≠ 0 → stepJ acc (lo, n) = if (acc.getD (acc.length - 1) (0, 0)).1 + (acc.getD (acc.length - 1) (0, 0)).2 = lo then acc.set (acc.length - 1) ((acc.getD (acc.length - 1) (0, 0)).1, (acc.getD (acc.length - 1) (0, 0)).2 + n) else acc ++ [(lo, n)] := by
            intro hn
            rw [stepJ, if_neg (by simpa using hn)]
            by_cases h : (acc.getD (acc.length - 1) (0, 0)).1 + (acc.getD (acc.length - 1) (0, 0)).2 = lo
            · rw [if_pos ⟨hacc, h⟩, if_pos h]
            · rw [if_neg (fun h' => h h'.2), if_neg h]
          generalize acc.getD (acc.length - 1) (0, 0) = ld at *
          obtain ⟨la, lb⟩ := ld
          simp only at hin hst
          have hrow : (acc.map rowN)[acc.length - 1]? = some (rowN (la, lb)) := by rw [List.getElem?_map, hlast]; rfl
          generalize hq : acc.length = q at *
          obtain ⟨p, rfl⟩ : ∃ p, q = p + 1 := ⟨q - 1, by omega⟩
          rw [Nat.add_sub_cancel] at hrow hst hlast
          have HROW := Lib.hid hrow
          have HST := Lib.hid hst
          have HQ := Lib.hid hq
          clear hq hlast hrow hst hacc
          have hne : (Value.slice (some ⟨gv, 0, none⟩) (p + 1) cv).ownBlock ≠ some wr.heap.size := fun h => by have := (hown.own_ge h).2; omega
          go_wp2_with fail
          refine (HC _).out.mono ?_
          rintro e w1 ⟨rfl, g1⟩
          have hz1 : wr.heap.size < w1.heap.size := by have := g1.size; simp at this; omega
          have hr1 : Blk w1 wr.heap.size 58 #[.int .i64 f, .int .i64 c] := (Blk.new wr _ _ rfl).grew g1
          have hown1 := (hown.alloc (.cells #[.int .i64 f, .int .i64 c] 58)).grew g1
          have hg1 : Grew w w1 := by (repeat' first | (with_reducible exact Grew.refl _) | (with_reducible assumption) | (with_reducible refine Grew.alloc ?_ _) | (with_reducible refine Grew.drew ?_) | (with_reducible refine Grew.drewN ?_ _) | (with_reducible refine Grew.setRow ?_ (by first | (simp; done) | (simp; omega) | omega) _) | (with_reducible refine Grew.setCell ?_ (by first | (simp; done) | (simp; omega) | omega) _) | ((with_reducible apply Grew.trans); rotate_left; (with_reducible assumption)) | ((with_reducible apply Grew.turn); rotate_left; (with_reducible assumption); (focus (intro i hi; first | omega | (simp at hi; omega)))) | fail)
          have r0 := hr1.cell 0
          have r1 := hr1.cell 1
          have rf0 := hr1.frozen 0
          have rf1 := hr1.frozen 1
          clear g1
          have hown2 := (hown1.far (p := ⟨wr.heap.size, 0, none⟩) hne (.int .i64 (lo : Int))).far (p := ⟨wr.heap.size, 1, none⟩) hne (.int .i64 (n : Int))
          have hg2 : Grew w ((w1.setCell ⟨wr.heap.size, 0, none⟩ (.int .i64 (lo : Int))).setCell ⟨wr.heap.size, 1, none⟩ (.int .i64 (n : Int))) := by (repeat' first | (with_reducible exact Grew.refl _) | (with_reducible assumption) | (with_reducible refine Grew.alloc ?_ _) | (with_reducible refine Grew.drew ?_) | (with_reducible refine Grew.drewN ?_ _) | (with_reducible refine Grew.setRow ?_ (by first | (simp; done) | (simp; omega) | omega) _) | (with_reducible refine Grew.setCell ?_ (by first | (simp; done) | (simp; omega) | omega) _) | ((with_reducible apply Grew.trans); rotate_left; (with_reducible assumption)) | ((with_reducible apply Grew.turn); rotate_left; (with_reducible assumption); (focus (intro i hi; first | omega | (simp at hi; omega)))) | fail)
          by_cases hn : n = 0
          · have hb0 : ((n : Int) == 0) = true := beq_iff_eq.2 (by omega)
            have HF := Lib.hid (HN.out.trans (by rw [stepJ, if_pos (by simp [hn])]))
            clear hn
            go_wp2_with fail
            go_roundg (l.length - (k + 1))
            case measure => rw [HGK.out]; omega
            case rel => exact ⟨k + 1, by omega, by omega, by go_num, by rw [HF.out]; exact hown2, hg2⟩
          · have hb0 : ((n : Int) == 0) = false := beq_eq_false_iff_ne.2 (by omega)
            have hst := HST.out hn
            have d0 := hown2.cell (i := 0) HROW.out rfl
            have d1 := hown2.cell (i := 1) HROW.out rfl
            have df := hown2.frozen (p * 2 + 1)
            rw [Nat.add_zero] at d0
            have hset := hown2.set_ (i := 1) (o := p * 2 + 1) HROW.out (by omega) rfl (.int .i64 ((lb + n : Nat) : Int))
            rw [rows_set'] at hset
            have HS := Lib.hid hset
            clear hset hn
            have hdq : decide ((0 : Int) ≤ (p : Int)) = true := by simp
            have hgne : ¬ gv = wr.heap.size := by omega
            have hgne' : ¬ wr.heap.size = gv := by omega
            by_cases hj : la + lb = lo
            · have HF := Lib.hid (HN.out.trans (hst.trans (if_pos hj)))
              have hbj : (((la : Int) + (lb : Int)) == (lo : Int)) = true := beq_iff_eq.2 (by omega)
              clear hst hj
              go_wp2_with fail
              go_quiet (fail)
              go_wp2_with fail
              go_region
              go_wp2_with fail
              go_roundg (l.length - (k + 1))
              case measure => rw [HGK.out]; omega
              case rel => exact ⟨k + 1, by omega, by omega, by go_num, by rw [HF.out]; exact HS.out, by (repeat' first | (with_reducible exact Grew.refl _) | (with_reducible assumption) | (with_reducible refine Grew.alloc ?_ _) | (with_reducible refine Grew.drew ?_) | (with_reducible refine Grew.drewN ?_ _) | (with_reducible refine Grew.setRow ?_ (by first | (simp; done) | (simp; omega) | omega) _) | (with_reducible refine Grew.setCell ?_ (by first | (simp; done) | (simp; omega) | omega) _) | ((with_reducible apply Grew.trans); rotate_left; (with_reducible assumption)) | ((with_reducible apply Grew.turn); rotate_left; (with_reducible assumption); (focus (intro i hi; first | omega | (simp at hi; omega)))) | fail)⟩
            · have HF := Lib.hid (HN.out.trans (hst.trans (if_neg hj)))
              have hbj : (((la : Int) + (lb : Int)) == (lo : Int)) = false := beq_eq_false_iff_ne.2 (by omega)
              clear hst hj
              go_wp2_with fail
              go_quiet (fail)
              go_wp2_with (at_builtin; refine wpList_push rfl _ _ 22 rfl w.heap.size 58 2 16 _ Try.underlying22 info_run rfl (by decide) (((w1.setCell ⟨wr.heap.size, 0, none⟩ (.int .i64 (lo : Int))).setCell ⟨wr.heap.size, 1, none⟩ (.int .i64 (n : Int))).drewN nq) _ (acc.map rowN) (rowN (lo, n)) (by rfl) rfl rfl (hown2.drewN nq) (by first | rfl | (simp; done)) rfl rfl (by rw [List.length_map, HQ.out]; omega) (by rw [List.length_map, HQ.out]; omega) hg2.size ?_; intro v' w3 hown3 hgr hbk hsz)
              go_roundg (l.length - (k + 1))
              case measure => rw [HGK.out]; omega
              case rel => exact ⟨k + 1, by omega, by omega, by go_num, by rw [HF.out, List.map_append]; exact hown3, hgr _ (hg2.drewN nq) (Nat.le_refl _)⟩
    · obtain rfl : k = l.length := by omega
      rw [List.take_length] at hown
      go_wp2_with fail
      go_ret
      exact ⟨_, rfl, hown, hg⟩
end Go.Proofs.Ytnlaogneceanoaa
namespace Go.Proofs.Ytnlaogneceanoaa
set_option linter.unusedVariables false
set_option linter.unusedSimpArgs false
set_option linter.unusedSectionVars false
open Go.RowKit
section
variable {P : Program}
theorem wp_push {o : Oper} {a : Act} {K : Act → World → Prop} {Q : Exit → Act → World → Prop} (s x : Operand) (t : TypeId)
    (ho : o.op = .call { callee := .builtin .append, args := #[s, x], argTypes := #[t, t] })
    (base e size bytes : Nat) (z : Value) (ht : P.underlying t = some (.slice e)) (hi : (P.info? e).map (fun i => (i.zero, i.size, i.bytes)) = some (some z, size, bytes)) (hzs : z.cells.size = size) (hsz : 0 < size)
    (W : World) (v : Value) (rows : List (List Value)) (row : List Value) (hrow : row.length = size) (hs : a.eval s = v) (hown : OwnL W base e size v rows) (gN : Nat) (hx : a.eval x = .slice (some ⟨gN, 0, none⟩) 1 1) (hb : Blk W gN e row.toArray) (h1 : row.all (·.oneCell') = true)
    (hlen : (rows.length + 1) * bytes ≤ 140737488355328) (h63 : rows.length + 1 ≤ 9223372036854775807) (hbase : base ≤ W.heap.size) (n : Nat) (hnl : rows.length = n)
    (h : ∀ g cap w', OwnL w' base e size (.slice (some ⟨g, 0, none⟩) (n + 1) cap) (rows ++ [row]) → W.grownBy w' v.ownBlock → (v.ownBlock = some g ∨ g = W.heap.size) → g < w'.heap.size → K (a.put o.dst (.slice (some ⟨g, 0, none⟩) (n + 1) cap)) w') :
    o.wp P a W K Q := by
  subst hnl
  obtain ⟨i, hi', hz0, hz1, hz2⟩ : ∃ i, P.info? e = some i ∧ i.zero = some z ∧ i.size = size ∧ i.bytes = bytes := by
    cases hq : P.info? e with
    | none => rw [hq] at hi; cases hi
    | some i => rw [hq] at hi; simp at hi; exact ⟨i, rfl, hi.1, hi.2.1, hi.2.2⟩
  refine wp_append_lies W s x t ho base e i z size bytes ht hi' hz0 hz1 hz2 hzs hsz v rows.length rows.flatten hs hown.2 ⟨gN, 0, none⟩ 1 1 row hx (by omega)
    (World.news_of_block (cs := row.toArray) hb) (fun u hu => List.all_eq_true.1 h1 u hu) (by omega) (by unfold maxLen; omega) hlen hbase _ rfl ?_
  intro g cap w' hown' hg hat hlt
  refine h g cap w' ⟨?_, ?_⟩ hg hat hlt
  · intro r hr'
    rcases List.mem_append.1 hr' with hr' | hr'
    · exact hown.1 r hr'
    · rw [List.mem_singleton.1 hr']; exact hrow
  · rw [List.flatten_append, List.length_append]
    simpa using hown'
theorem wpList_push2 {ops : Array Oper} {rest : List Oper} {o : Oper} {a : Act} {Q : Exit → Act → World → Prop} (hgd : o.guard = none) (s x : Operand) (t : TypeId)
    (ho : o.op = .call { callee := .builtin .append, args := #[s, x], argTypes := #[t, t] })
    (base e size bytes : Nat) (z : Value) (ht : P.underlying t = some (.slice e)) (hi : (P.info? e).map (fun i => (i.zero, i.size, i.bytes)) = some (some z, size, bytes)) (hzs : z.cells.size = size) (hsz : 0 < size)
    (W : World) (v : Value) (rows : List (List Value)) (row : List Value) (hrow : row.length = size) (hs : a.eval s = v) (hown : OwnL W base e size v rows) (gN : Nat) (hx : a.eval x = .slice (some ⟨gN, 0, none⟩) 1 1) (hb : Blk W gN e row.toArray) (h1 : row.all (·.oneCell') = true)
    (hlen : (rows.length + 1) * bytes ≤ 140737488355328) (h63 : rows.length + 1 ≤ 9223372036854775807) (hbase : base ≤ W.heap.size) (n : Nat) (hnl : rows.length = n)
    (h : ∀ g cap w', OwnL w' base e size (.slice (some ⟨g, 0, none⟩) (n + 1) cap) (rows ++ [row]) → W.grownBy w' v.ownBlock → (v.ownBlock = some g ∨ g = W.heap.size) → g < w'.heap.size → wpList P ops Q rest (a.put o.dst (.slice (some ⟨g, 0, none⟩) (n + 1) cap)) w') :
    wpList P ops Q (o :: rest) a W :=
  wpList_plain hgd fun _ hK => wp_push s x t ho base e size bytes z ht hi hzs hsz W v rows row hrow hs hown gN hx hb h1 hlen h63 hbase n hnl fun g cap w' h1 h2 h3 h4 => hK _ _ (h g cap w' h1 h2 h3 h4)
end
theorem OwnL.own {w w' : World} {base e sz : Nat} {v : Value} {rows : List (List Value)} {row : Option Nat} (h : OwnL w base e sz v rows) (hg : w.grownBy w' row) (hne : ∀ g, v.ownBlock = some g → row ≠ some g) : OwnL w' base e sz v rows := by
  refine ⟨h.1, h.2.1, ?_⟩
  rcases h.2.2 with h0 | ⟨g, cap, cur, hv, hb, hh, hr⟩
  · exact .inl h0
  · exact .inr ⟨g, cap, cur, hv, hb, Blk.own (t := e) (cs := cur) hh hg (hne g (by rw [hv]; rfl)), hr⟩
theorem OwnL.row_ge {w : World} {base e sz : Nat} {v : Value} {rows : List (List Value)} (h : OwnL w base e sz v rows) : ∀ k, v.ownBlock = some k → base ≤ k := fun _ hk => (h.own_ge hk).1
end Go.Proofs.Ytnlaogneceanoaa
namespace Go.Proofs.Ytnlaogneceanoaa
set_option linter.unusedVariables false
set_option linter.unusedSimpArgs false
set_option linter.unusedSectionVars false
open Go.RowKit
instance (r : Int × Int) : Decidable (okRun r) := by unfold okRun; infer_instance
theorem at_val (A : Option Addr) (c n : Nat) (l : List (Int × Int)) (w : World) (hn : n = l.length) (hl : l.length ≤ 1000000) (hr : RunsAt w w.heap.size A l) (t : Int) (t0 : -9223372036854775808 ≤ t) (t1 : t ≤ 9223372036854775807) (a : Int) (b : Bool)
    (h : (if t < 0 then (0, false) else atS l t) = (a, b)) : Calls Try.prog 31 #[.slice A n c, .int .i64 t] w fun e w' => e = .returned (.tuple #[.int .i64 a, .bool b]) ∧ Grew w w' := by
  subst hn
  have := at_any A c l w w.heap.size (Nat.le_refl _) hl hr t t0 t1
  rw [h] at this
  exact this
theorem RunsAt.hold {w w' : World} {A : Option Addr} {l : List (Int × Int)} (h : RunsAt w w.heap.size A l) (hg : Grew w w') : RunsAt w' w'.heap.size A l :=
  ⟨h.1, (h.2.keep (Nat.le_refl _) hg).mono hg.size⟩
theorem join_val (A : Option Addr) (c n : Nat) (l : List (Int × Int)) (w : World) (hn : n = l.length) (hl : l.length ≤ 1000000) (hr : RunsAt w w.heap.size A l) (k : List (Int × Int)) (hk : ints (joinS l) = k) :
    Calls Try.prog 78 #[.slice A n c] w fun e w' => ∃ A c, e = .returned (.slice A k.length c) ∧ RunsAt w' w'.heap.size A k ∧ Grew w w' := by
  subst hn
  subst hk
  refine (join_any A c l w w.heap.size (Nat.le_refl _) hl hr).mono ?_
  rintro e w1 ⟨v, rfl, hown, g1⟩
  obtain ⟨A', c', hv, hr'⟩ := own_runs hown (fun r hr => Nat.le_trans (joinS_bd _ r hr) (by omega))
  exact ⟨A', c', by rw [hv], hr', g1⟩
theorem same_val (A1 A2 : Option Addr) (c1 c2 n1 n2 : Nat) (l1 l2 : List (Int × Int)) (w : World) (hn1 : n1 = l1.length) (hn2 : n2 = l2.length) (hl1 : l1.length ≤ 1000000) (hl2 : l2.length ≤ 1000000) (hr1 : RunsAt w w.heap.size A1 l1) (hr2 : RunsAt w w.heap.size A2 l2) (b : Bool) (hb : decide (l1 = l2) = b) :
    Calls Try.prog 17 #[.slice A1 n1 c1, .slice A2 n2 c2] w fun e w' => e = .returned (.bool b) ∧ Grew w w' := by
  subst hn1; subst hn2; subst hb
  exact same_any A1 A2 c1 c2 l1 l2 w w.heap.size (Nat.le_refl _) hl1 hl2 hr1 hr2
end Go.Proofs.Ytnlaogneceanoaa
namespace Go.Proofs.Ytnlaogneceanoaa
set_option linter.unusedVariables false
set_option linter.unusedSimpArgs false
set_option linter.unusedSectionVars false
open Go.RowKit
theorem sizeS_cons (r : Int × Int) (l : List (Int × Int)) : sizeS (r :: l) = (clipS r).2 + sizeS l := rfl
end Go.Proofs.Ytnlaogneceanoaa
