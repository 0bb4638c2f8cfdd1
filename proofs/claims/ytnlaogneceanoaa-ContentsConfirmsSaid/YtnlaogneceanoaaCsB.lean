/- runs: the normal form of a set. Size, Index, At, Contains: the program's. Equal lists; Normal, Valid. mix: two sets by a table. The reference's In, Set, Normal; Valid and Disjoint. The reference's Set and Normal. -/
import Derived.Deep.QuietTactic
import Derived.BigQuiet
import Derived.Deep.RegionHeld3
import Derived.Deep.RegionWith
import Derived.Test.YtnlaogneceanoaaCsA
namespace Go.Proofs.Ytnlaogneceanoaa
set_option linter.unusedVariables false
set_option linter.unusedSimpArgs false
set_option linter.unusedSectionVars false
open Go.RowKit
/-- The last run, one track longer. -/
def bump (l : List (Nat × Nat)) : List (Nat × Nat) := l.set (l.length - 1) ((l.getD (l.length - 1) (0, 0)).1, (l.getD (l.length - 1) (0, 0)).2 + 1)
theorem getD_at (l : List (Nat × Nat)) (j : Nat) (h : j < l.length) : l.getD j (0, 0) = l[j] := by simp [List.getD, h]
def stepN (S : Nat → Bool) (l : List (Nat × Nat)) (i : Nat) : List (Nat × Nat) := if S i = false then l else if 0 < i ∧ S (i - 1) = true then bump l else l ++ [(i, 1)]
def normTo (S : Nat → Bool) : Nat → List (Nat × Nat)
  | 0 => []
  | k + 1 => stepN S (normTo S k) k
/-- The normal form of a set of tracks. -/
def normS (S : Nat → Bool) : List (Nat × Nat) := normTo S 128
theorem bump_len (l : List (Nat × Nat)) : (bump l).length = l.length := by simp [bump]
theorem stepN_len (S : Nat → Bool) (l : List (Nat × Nat)) (i : Nat) : (stepN S l i).length ≤ l.length + 1 := by
  unfold stepN; repeat' split
  · omega
  · rw [bump_len]; omega
  · simp
theorem normTo_len (S : Nat → Bool) (k : Nat) : (normTo S k).length ≤ k := by
  induction k with
  | zero => simp [normTo]
  | succ k ih => have := stepN_len S (normTo S k) k; rw [normTo]; omega
theorem normTo_pos (S : Nat → Bool) (k : Nat) (hk : 0 < k) (h : S (k - 1) = true) : 0 < (normTo S k).length := by
  obtain ⟨j, rfl⟩ : ∃ j, k = j + 1 := ⟨k - 1, by omega⟩
  have h' : S j = true := h
  rw [normTo, stepN, if_neg (by simp [h'])]
  split
  · rename_i h2
    have := normTo_pos S j h2.1 h2.2
    rw [bump_len]; exact this
  · simp
theorem bump_bd (l : List (Nat × Nat)) (k : Nat) (h : ∀ r ∈ l, r.1 + r.2 ≤ k) : ∀ r ∈ bump l, r.1 + r.2 ≤ k + 1 := by
  intro r hr
  rcases List.mem_or_eq_of_mem_set hr with hr | rfl
  · have := h r hr; omega
  · simp only []
    by_cases hl : l.length - 1 < l.length
    · have := h (l.getD (l.length - 1) (0, 0)) (by rw [getD_at l _ hl]; exact List.getElem_mem hl)
      omega
    · have : l = [] := List.length_eq_zero_iff.1 (by omega)
      subst this; simp
theorem normTo_bd (S : Nat → Bool) (k : Nat) : ∀ r ∈ normTo S k, r.1 + r.2 ≤ k := by
  induction k with
  | zero => intro r hr; simp [normTo] at hr
  | succ k ih =>
    intro r hr
    rw [normTo, stepN] at hr
    split at hr
    · have := ih r hr; omega
    · split at hr
      · exact bump_bd _ k ih r hr
      · rcases List.mem_append.1 hr with hr | hr
        · have := ih r hr; omega
        · rw [List.mem_singleton.1 hr]; simp
def rowN (r : Nat × Nat) : List Value := [.int .i64 (r.1 : Int), .int .i64 (r.2 : Int)]
theorem info_run : (Try.prog.info? 58).map (fun i => (i.zero, i.size, i.bytes)) = some (some (.agg #[.int .i64 0, .int .i64 0]), 2, 16) := by kernel_rfl
theorem rows_set (l : List (Nat × Nat)) (j : Nat) (a b b' : Nat) (h : l[j]? = some (a, b)) : (l.map rowN).set j ((rowN (a, b)).set 1 (.int .i64 (b' : Int))) = (l.set j (a, b')).map rowN := by
  rw [List.map_set]; rfl
set_option maxRecDepth 100000 in
set_option maxHeartbeats 4000000 in
theorem runs_any (g : Nat) (S : Nat → Bool) (w : World) (hs : Blk w g 92 (boolArr S)) :
    Calls Try.prog 56 #[.pointer (some ⟨g, 0, none⟩)] w fun e w' => ∃ v, e = .returned v ∧ OwnL w' w.heap.size 58 2 v ((normS S).map rowN) ∧ Grew w w' := by
  have hgl := hs.lt
  go_enter Try.func56, Try.ntmps56
  go_wp2_with fail
  go_loopg [3, 7] 128 (fun gk v i wr => ∃ k : Nat, k ≤ 128 ∧ gk = 128 - k ∧ i = .int .i64 k ∧ OwnL wr w.heap.size 58 2 v ((normTo S k).map rowN) ∧ Grew w wr)
  case atStart => exact ⟨0, by omega, by omega, rfl, OwnL.nil _ _ _ _, by (repeat' first | (with_reducible exact Grew.refl _) | (with_reducible assumption) | (with_reducible refine Grew.alloc ?_ _) | (with_reducible refine Grew.drew ?_) | (with_reducible refine Grew.drewN ?_ _) | (with_reducible refine Grew.setRow ?_ (by first | (simp; done) | (simp; omega) | omega) _) | (with_reducible refine Grew.setCell ?_ (by first | (simp; done) | (simp; omega) | omega) _) | ((with_reducible apply Grew.trans); rotate_left; (with_reducible assumption)) | ((with_reducible apply Grew.turn); rotate_left; (with_reducible assumption); (focus (intro i hi; first | omega | (simp at hi; omega)))) | fail)⟩
  case round =>
    obtain ⟨k, hk, hgk, rfl, hown, hg⟩ := hrel
    have HGK := Lib.hid hgk
    clear hgk
    have hs' := hs.grew hg
    by_cases hlt : k < 128
    · have c0 := hs'.cell k
      rw [boolArr_get _ _ hlt] at c0
      have hstep : normTo S (k + 1) = stepN S (normTo S k) k := rfl
      have hlen := normTo_len S k
      have hbd := normTo_bd S k
      by_cases hS : S k = true
      · rw [stepN, if_neg (by simp [hS])] at hstep
        rw [hS] at c0
        by_cases hp : 0 < k ∧ S (k - 1) = true
        · rw [if_pos hp] at hstep
          have c1 := hs'.cell (k - 1)
          rw [boolArr_get _ _ (by omega), hp.2] at c1
          have hpos := normTo_pos S k hp.1 hp.2
          have HS := Lib.hid hstep
          have HB := Lib.hid hbd
          have hk0 := hp.1
          clear hstep hbd hS hp
          rcases hown.form with ⟨_, h0⟩ | ⟨gv, cap, hv, hbg, hgv, hc1, hc2⟩
          · exfalso; have := congrArg List.length h0; simp at this; simp [this] at hpos
          · subst hv
            have hlast : (normTo S k)[(normTo S k).length - 1]? = some ((normTo S k).getD ((normTo S k).length - 1) (0, 0)) := by
              rw [getD_at _ _ (by omega)]; exact List.getElem?_eq_getElem (by omega)
            have hin := HB.out _ (List.mem_of_getElem? hlast)
            generalize hld : (normTo S k).getD ((normTo S k).length - 1) (0, 0) = ld at *
            obtain ⟨la, lb⟩ := ld
            have hrow : ((normTo S k).map rowN)[(normTo S k).length - 1]? = some (rowN (la, lb)) := by rw [List.getElem?_map, hlast]; rfl
            have d1 := hown.cell (i := 1) hrow rfl
            have d0 := hown.frozen (((normTo S k).length - 1) * 2 + 1)
            rw [List.length_map] at *
            have hne : gv ≠ g := by intro e; exact absurd (hown.ne_blk hs' (by decide)) (by simp [Value.ownBlock, e])
            have hsetown := hown.set_ (i := 1) (o := ((normTo S k).length - 1) * 2 + 1) hrow (by omega) rfl (.int .i64 ((lb + 1 : Nat) : Int))
            rw [rows_set _ _ la lb (lb + 1) hlast] at hsetown
            
            have HL := Lib.hid hld
            have HLL := Lib.hid hlast
            have HR := Lib.hid hrow
            simp only at hin
            have HN := Lib.hid hsetown
            clear hsetown hld hlast hrow
            generalize hq : (normTo S k).length = q at *
            have hq1 : ((q : Int) - 1) = ((q - 1 : Nat) : Int) := by omega
            go_wp2_with fail
            go_region
            go_wp2_with fail
            go_roundg (128 - (k + 1))
            case measure => rw [HGK.out]; omega
            case rel => exact ⟨k + 1, by omega, by omega, by go_num, by rw [HS.out, bump, hq, HL.out]; exact HN.out.drew, by (repeat' first | (with_reducible exact Grew.refl _) | (with_reducible assumption) | (with_reducible refine Grew.alloc ?_ _) | (with_reducible refine Grew.drew ?_) | (with_reducible refine Grew.drewN ?_ _) | (with_reducible refine Grew.setRow ?_ (by first | (simp; done) | (simp; omega) | omega) _) | (with_reducible refine Grew.setCell ?_ (by first | (simp; done) | (simp; omega) | omega) _) | ((with_reducible apply Grew.trans); rotate_left; (with_reducible assumption)) | ((with_reducible apply Grew.turn); rotate_left; (with_reducible assumption); (focus (intro i hi; first | omega | (simp at hi; omega)))) | fail)⟩
        · rw [if_neg hp] at hstep
          have HS := Lib.hid hstep
          have HB := Lib.hid hbd
          have hp' : k = 0 ∨ S (k - 1) = false := by
            by_cases h : k = 0
            · exact .inl h
            · right; cases h2 : S (k - 1) with
              | false => rfl
              | true => exact absurd ⟨by omega, h2⟩ hp
          clear hstep hbd hS hp
          have hx : ∃ d : Value, 0 < k → wr.cell? ⟨g, k - 1, none⟩ = some (.bool false) := ⟨.bool false, fun h => by
            have c1 := hs'.cell (k - 1)
            rw [boolArr_get _ _ (by omega)] at c1
            rcases hp' with h' | h'
            · omega
            · rw [h'] at c1; exact c1⟩
          obtain ⟨_, hx⟩ := hx
          by_cases hk0 : k = 0
          · subst hk0
            clear hp' hx
            go_wp2_with fail
            go_region
            go_wp2_with (at_builtin; refine wpList_push rfl _ _ 22 rfl w.heap.size 58 2 16 _ Try.underlying22 info_run rfl (by decide) wr.drew _ ((normTo S 0).map rowN) (rowN (0, 1)) (by rfl) rfl rfl hown.drew (by first | rfl | (simp; done)) rfl rfl (by rw [List.length_map]; omega) (by rw [List.length_map]; omega) hg.size ?_; intro v' w1 hown1 hgr hbk hsz)
            go_roundg (128 - (0 + 1))
            case measure => rw [HGK.out]; omega
            case rel => exact ⟨0 + 1, by omega, by omega, by go_num, by rw [HS.out, List.map_append]; exact hown1, hgr _ hg.drew (Nat.le_refl _)⟩
          · have hx' := hx (by omega)
            clear hp' hx
            go_wp2_with fail
            go_region
            go_wp2_with (at_builtin; refine wpList_push rfl _ _ 22 rfl w.heap.size 58 2 16 _ Try.underlying22 info_run rfl (by decide) wr.drew _ ((normTo S k).map rowN) (rowN (k, 1)) (by rfl) rfl rfl hown.drew (by first | rfl | (simp; done)) rfl rfl (by rw [List.length_map]; omega) (by rw [List.length_map]; omega) hg.size ?_; intro v' w1 hown1 hgr hbk hsz)
            go_roundg (128 - (k + 1))
            case measure => rw [HGK.out]; omega
            case rel => exact ⟨k + 1, by omega, by omega, by go_num, by rw [HS.out, List.map_append]; exact hown1, hgr _ hg.drew (Nat.le_refl _)⟩
      · have hS' : S k = false := by simpa using hS
        rw [stepN, if_pos hS'] at hstep
        rw [hS'] at c0
        have HS := Lib.hid hstep
        have HB := Lib.hid hbd
        clear hstep hbd hS hS'
        go_wp2_with fail
        go_region
        go_wp2_with fail
        go_roundg (128 - (k + 1))
        case measure => rw [HGK.out]; omega
        case rel => exact ⟨k + 1, by omega, by omega, by go_num, by rw [HS.out]; exact hown.drew, by (repeat' first | (with_reducible exact Grew.refl _) | (with_reducible assumption) | (with_reducible refine Grew.alloc ?_ _) | (with_reducible refine Grew.drew ?_) | (with_reducible refine Grew.drewN ?_ _) | (with_reducible refine Grew.setRow ?_ (by first | (simp; done) | (simp; omega) | omega) _) | (with_reducible refine Grew.setCell ?_ (by first | (simp; done) | (simp; omega) | omega) _) | ((with_reducible apply Grew.trans); rotate_left; (with_reducible assumption)) | ((with_reducible apply Grew.turn); rotate_left; (with_reducible assumption); (focus (intro i hi; first | omega | (simp at hi; omega)))) | fail)⟩
    · obtain rfl : k = 128 := by omega
      go_wp2_with fail
      go_ret
      exact ⟨_, rfl, hown, hg⟩
end Go.Proofs.Ytnlaogneceanoaa
namespace Go.Proofs.Ytnlaogneceanoaa
set_option linter.unusedVariables false
set_option linter.unusedSimpArgs false
set_option linter.unusedSectionVars false
open Go.RowKit
def sizeS (l : List (Int × Int)) : Nat := (l.map fun r => (clipS r).2).sum
theorem sizeS_snoc (l : List (Int × Int)) (k : Nat) (h : k < l.length) : sizeS (l.take (k + 1)) = sizeS (l.take k) + (clipS l[k]).2 := by
  unfold sizeS; rw [List.take_succ_eq_append_getElem h, List.map_append, List.sum_append]; simp
theorem sizeS_le (l : List (Int × Int)) : sizeS l ≤ 128 * l.length := by
  induction l with
  | nil => simp [sizeS]
  | cons r l ih =>
    have := clipS_le r
    unfold sizeS at ih ⊢
    simp only [List.map_cons, List.sum_cons, List.length_cons]
    omega
/-- The least index of a track in the sequence of a list, from n on. -/
def idxS (t : Int) : List (Int × Int) → Nat → Int × Bool
  | [], _ => (0, false)
  | r :: l, n => if ((clipS r).1 : Int) ≤ t ∧ t < ((clipS r).1 : Int) + (clipS r).2 then ((n : Int) + t - (clipS r).1, true) else idxS t l (n + (clipS r).2)
/-- The track at an index. -/
def atS : List (Int × Int) → Int → Int × Bool
  | [], _ => (0, false)
  | r :: l, i => if i < ((clipS r).2 : Int) then ((clipS r).1 + i, true) else atS l (i - (clipS r).2)
theorem drop_cons (l : List (Int × Int)) (k : Nat) (h : k < l.length) : l.drop k = l[k] :: l.drop (k + 1) := List.drop_eq_getElem_cons h
theorem ret_ib {a b : Int} {c d : Bool} (h : a = b) (h' : c = d) : Ending.returned (.tuple #[.int .i64 a, .bool c]) = .returned (.tuple #[.int .i64 b, .bool d]) := by rw [h, h']
theorem ret_int {k : IntKind} {a b : Int} (h : a = b) : Ending.returned (.int k a) = .returned (.int k b) := by rw [h]
theorem field_cnt (W : World) (a b : Int) : (Instr.field 58 (.agg #[.int .i64 a, .int .i64 b]) 1).run Try.prog W = .ok (.int .i64 b) W := by kernel_rfl
section
variable (A : Option Addr) (c : Nat) (l : List (Int × Int)) (w : World) (B : Nat) (hB : B ≤ w.heap.size) (hl : l.length ≤ 1000000) (hr : RunsAt w B A l)
include hB hl hr
set_option maxRecDepth 100000 in
set_option maxHeartbeats 4000000 in
theorem size_any : Calls Try.prog 33 #[.slice A l.length c] w fun e w' => e = .returned (.int .i64 (sizeS l)) ∧ Grew w w' := by
  have HR := Lib.hid hr
  clear hr
  have hfd := field_cnt
  go_enter Try.func33, Try.ntmps33
  go_wp2_with fail
  go_loopg [3, 8] l.length (fun gk n i wr => ∃ k : Nat, k ≤ l.length ∧ gk = l.length - k ∧ i = .int .i64 k ∧ n = .int .i64 (sizeS (l.take k)) ∧ Grew w wr)
  case atStart => exact ⟨0, by omega, by omega, rfl, rfl, by (repeat' first | (with_reducible exact Grew.refl _) | (with_reducible assumption) | (with_reducible refine Grew.alloc ?_ _) | (with_reducible refine Grew.drew ?_) | (with_reducible refine Grew.drewN ?_ _) | (with_reducible refine Grew.setRow ?_ (by first | (simp; done) | (simp; omega) | omega) _) | (with_reducible refine Grew.setCell ?_ (by first | (simp; done) | (simp; omega) | omega) _) | ((with_reducible apply Grew.trans); rotate_left; (with_reducible assumption)) | ((with_reducible apply Grew.turn); rotate_left; (with_reducible assumption); (focus (intro i hi; first | omega | (simp at hi; omega)))) | fail)⟩
  case round =>
    obtain ⟨k, hk, hgk, rfl, rfl, hg⟩ := hrel
    have HGK := Lib.hid hgk
    clear hgk
    have hsz := sizeS_le (l.take k)
    have hsl : (l.take k).length ≤ 1000000 := Nat.le_trans (List.length_take_le _ _) (by omega)
    by_cases hlt : k < l.length
    · obtain ⟨b, off, f, c, rfl, hb, hlk, ⟨f0, f1, c0, c1⟩, x0, x1⟩ := (HR.out.keep hB hg).at_ hlt
      simp only at f0 f1 c0 c1
      have hbs : b < wr.heap.size := by have := hg.size; omega
      have hws := hg.size
      have hle := clipS_le (f, c)
      have HN := Lib.hid ((sizeS_snoc l k hlt).trans (by rw [hlk]))
      clear hlk
      go_wp2_with fail
      refine (clip_any f c _ f0 f1 c0 c1).mono ?_
      rintro e w1 ⟨rfl, g1⟩
      go_wp2_with fail
      go_roundg (l.length - (k + 1))
      case measure => rw [HGK.out]; omega
      case rel => exact ⟨k + 1, by omega, by omega, by go_num, by rw [HN.out]; go_num, by (repeat' first | (with_reducible exact Grew.refl _) | (with_reducible assumption) | (with_reducible refine Grew.alloc ?_ _) | (with_reducible refine Grew.drew ?_) | (with_reducible refine Grew.drewN ?_ _) | (with_reducible refine Grew.setRow ?_ (by first | (simp; done) | (simp; omega) | omega) _) | (with_reducible refine Grew.setCell ?_ (by first | (simp; done) | (simp; omega) | omega) _) | ((with_reducible apply Grew.trans); rotate_left; (with_reducible assumption)) | ((with_reducible apply Grew.turn); rotate_left; (with_reducible assumption); (focus (intro i hi; first | omega | (simp at hi; omega)))) | fail)⟩
    · obtain rfl : k = l.length := by omega
      go_wp2_with fail
      go_ret
      exact ⟨ret_int (by rw [List.take_length]), by (repeat' first | (with_reducible exact Grew.refl _) | (with_reducible assumption) | (with_reducible refine Grew.alloc ?_ _) | (with_reducible refine Grew.drew ?_) | (with_reducible refine Grew.drewN ?_ _) | (with_reducible refine Grew.setRow ?_ (by first | (simp; done) | (simp; omega) | omega) _) | (with_reducible refine Grew.setCell ?_ (by first | (simp; done) | (simp; omega) | omega) _) | ((with_reducible apply Grew.trans); rotate_left; (with_reducible assumption)) | ((with_reducible apply Grew.turn); rotate_left; (with_reducible assumption); (focus (intro i hi; first | omega | (simp at hi; omega)))) | fail)⟩
set_option maxRecDepth 100000 in
set_option maxHeartbeats 4000000 in
theorem index_any (t : Int) (t0 : -9223372036854775808 ≤ t) (t1 : t ≤ 9223372036854775807) :
    Calls Try.prog 34 #[.slice A l.length c, .int .i64 t] w fun e w' => e = .returned (.tuple #[.int .i64 (idxS t l 0).1, .bool (idxS t l 0).2]) ∧ Grew w w' := by
  have HR := Lib.hid hr
  clear hr
  go_enter Try.func34, Try.ntmps34
  go_wp2_with fail
  go_loopg [6, 11] l.length (fun gk m i wr => ∃ k n : Nat, k ≤ l.length ∧ gk = l.length - k ∧ i = .int .i64 k ∧ m = .int .i64 n ∧ n ≤ 128 * k ∧ idxS t l 0 = idxS t (l.drop k) n ∧ Grew w wr)
  case atStart => exact ⟨0, 0, by omega, by omega, rfl, rfl, by omega, rfl, by (repeat' first | (with_reducible exact Grew.refl _) | (with_reducible assumption) | (with_reducible refine Grew.alloc ?_ _) | (with_reducible refine Grew.drew ?_) | (with_reducible refine Grew.drewN ?_ _) | (with_reducible refine Grew.setRow ?_ (by first | (simp; done) | (simp; omega) | omega) _) | (with_reducible refine Grew.setCell ?_ (by first | (simp; done) | (simp; omega) | omega) _) | ((with_reducible apply Grew.trans); rotate_left; (with_reducible assumption)) | ((with_reducible apply Grew.turn); rotate_left; (with_reducible assumption); (focus (intro i hi; first | omega | (simp at hi; omega)))) | fail)⟩
  case round =>
    obtain ⟨k, n, hk, hgk, rfl, rfl, hn, hix, hg⟩ := hrel
    have HGK := Lib.hid hgk
    clear hgk
    by_cases hlt : k < l.length
    · obtain ⟨b, off, f, c, rfl, hb, hlk, ⟨f0, f1, c0, c1⟩, x0, x1⟩ := (HR.out.keep hB hg).at_ hlt
      simp only at f0 f1 c0 c1
      have hbs : b < wr.heap.size := by have := hg.size; omega
      have hws := hg.size
      have hle := clipS_le (f, c)
      rw [drop_cons l k hlt, hlk, idxS] at hix
      have HX := Lib.hid hix
      clear hlk hix
      have HC := fun W => Lib.hid (clip_any f c W f0 f1 c0 c1)
      generalize clipS (f, c) = r at *
      obtain ⟨lo, nn⟩ := r
      simp only at hle
      go_wp2_with fail
      refine (HC _).out.mono ?_
      rintro e w1 ⟨rfl, g1⟩
      have hce := g1.cellEq
      have hfe := g1.frozenEq
      have hz1 : wr.heap.size < w1.heap.size := by have := g1.size; simp at this; omega
      by_cases hin : (lo : Int) ≤ t ∧ t < (lo : Int) + nn
      · have HF := Lib.hid (HX.out.trans (if_pos hin))
        obtain ⟨hi1, hi2⟩ := hin
        go_wp2_with fail
        go_ret2
        exact ⟨ret_ib (by rw [HF.out]) (by rw [HF.out]), by (repeat' first | (with_reducible exact Grew.refl _) | (with_reducible assumption) | (with_reducible refine Grew.alloc ?_ _) | (with_reducible refine Grew.drew ?_) | (with_reducible refine Grew.drewN ?_ _) | (with_reducible refine Grew.setRow ?_ (by first | (simp; done) | (simp; omega) | omega) _) | (with_reducible refine Grew.setCell ?_ (by first | (simp; done) | (simp; omega) | omega) _) | ((with_reducible apply Grew.trans); rotate_left; (with_reducible assumption)) | ((with_reducible apply Grew.turn); rotate_left; (with_reducible assumption); (focus (intro i hi; first | omega | (simp at hi; omega)))) | fail)⟩
      · have HF := Lib.hid (HX.out.trans (if_neg hin))
        by_cases hi1 : (lo : Int) ≤ t
        · have hi2 : (lo : Int) + nn ≤ t := by omega
          clear hin
          go_wp2_with fail
          go_roundg (l.length - (k + 1))
          case measure => rw [HGK.out]; omega
          case rel => exact ⟨k + 1, n + nn, by omega, by omega, by go_num, by go_num, by omega, HF.out, by (repeat' first | (with_reducible exact Grew.refl _) | (with_reducible assumption) | (with_reducible refine Grew.alloc ?_ _) | (with_reducible refine Grew.drew ?_) | (with_reducible refine Grew.drewN ?_ _) | (with_reducible refine Grew.setRow ?_ (by first | (simp; done) | (simp; omega) | omega) _) | (with_reducible refine Grew.setCell ?_ (by first | (simp; done) | (simp; omega) | omega) _) | ((with_reducible apply Grew.trans); rotate_left; (with_reducible assumption)) | ((with_reducible apply Grew.turn); rotate_left; (with_reducible assumption); (focus (intro i hi; first | omega | (simp at hi; omega)))) | fail)⟩
        · clear hin
          go_wp2_with fail
          go_roundg (l.length - (k + 1))
          case measure => rw [HGK.out]; omega
          case rel => exact ⟨k + 1, n + nn, by omega, by omega, by go_num, by go_num, by omega, HF.out, by (repeat' first | (with_reducible exact Grew.refl _) | (with_reducible assumption) | (with_reducible refine Grew.alloc ?_ _) | (with_reducible refine Grew.drew ?_) | (with_reducible refine Grew.drewN ?_ _) | (with_reducible refine Grew.setRow ?_ (by first | (simp; done) | (simp; omega) | omega) _) | (with_reducible refine Grew.setCell ?_ (by first | (simp; done) | (simp; omega) | omega) _) | ((with_reducible apply Grew.trans); rotate_left; (with_reducible assumption)) | ((with_reducible apply Grew.turn); rotate_left; (with_reducible assumption); (focus (intro i hi; first | omega | (simp at hi; omega)))) | fail)⟩
    · rw [List.drop_eq_nil_of_le (by omega), idxS] at hix
      have HF := Lib.hid hix
      clear hix
      go_wp2_with fail
      go_ret2
      exact ⟨ret_ib (by rw [HF.out]) (by rw [HF.out]), by (repeat' first | (with_reducible exact Grew.refl _) | (with_reducible assumption) | (with_reducible refine Grew.alloc ?_ _) | (with_reducible refine Grew.drew ?_) | (with_reducible refine Grew.drewN ?_ _) | (with_reducible refine Grew.setRow ?_ (by first | (simp; done) | (simp; omega) | omega) _) | (with_reducible refine Grew.setCell ?_ (by first | (simp; done) | (simp; omega) | omega) _) | ((with_reducible apply Grew.trans); rotate_left; (with_reducible assumption)) | ((with_reducible apply Grew.turn); rotate_left; (with_reducible assumption); (focus (intro i hi; first | omega | (simp at hi; omega)))) | fail)⟩
set_option maxRecDepth 100000 in
set_option maxHeartbeats 4000000 in
theorem contains_any (t : Int) (t0 : -9223372036854775808 ≤ t) (t1 : t ≤ 9223372036854775807) :
    Calls Try.prog 12 #[.slice A l.length c, .int .i64 t] w fun e w' => e = .returned (.bool (idxS t l 0).2) ∧ Grew w w' := by
  go_enter Try.func12, Try.ntmps12
  go_wp2_with fail
  refine (index_any A c l w B hB hl hr t t0 t1).mono ?_
  rintro e w1 ⟨rfl, g1⟩
  go_wp2_with fail
  go_ret
  exact ⟨rfl, g1⟩
set_option maxRecDepth 100000 in
set_option maxHeartbeats 4000000 in
theorem at_any (t : Int) (t0 : -9223372036854775808 ≤ t) (t1 : t ≤ 9223372036854775807) :
    Calls Try.prog 31 #[.slice A l.length c, .int .i64 t] w fun e w' => e = .returned (.tuple #[.int .i64 (if t < 0 then (0, false) else atS l t).1, .bool (if t < 0 then (0, false) else atS l t).2]) ∧ Grew w w' := by
  have HR := Lib.hid hr
  clear hr
  by_cases hneg : t < 0
  · rw [if_pos hneg]
    go_enter Try.func31, Try.ntmps31
    go_wp2_with fail
    go_ret2
    exact ⟨rfl, by (repeat' first | (with_reducible exact Grew.refl _) | (with_reducible assumption) | (with_reducible refine Grew.alloc ?_ _) | (with_reducible refine Grew.drew ?_) | (with_reducible refine Grew.drewN ?_ _) | (with_reducible refine Grew.setRow ?_ (by first | (simp; done) | (simp; omega) | omega) _) | (with_reducible refine Grew.setCell ?_ (by first | (simp; done) | (simp; omega) | omega) _) | ((with_reducible apply Grew.trans); rotate_left; (with_reducible assumption)) | ((with_reducible apply Grew.turn); rotate_left; (with_reducible assumption); (focus (intro i hi; first | omega | (simp at hi; omega)))) | fail)⟩
  · rw [if_neg hneg]
    go_enter Try.func31, Try.ntmps31
    go_wp2_with fail
    go_loopg [1, 12] l.length (fun gk m i wr => ∃ (k : Nat) (n : Int), k ≤ l.length ∧ gk = l.length - k ∧ i = .int .i64 k ∧ m = .int .i64 n ∧ 0 ≤ n ∧ n ≤ 9223372036854775807 ∧ atS l t = atS (l.drop k) n ∧ Grew w wr)
    case atStart => exact ⟨0, t, by omega, by omega, rfl, rfl, by omega, by omega, rfl, by (repeat' first | (with_reducible exact Grew.refl _) | (with_reducible assumption) | (with_reducible refine Grew.alloc ?_ _) | (with_reducible refine Grew.drew ?_) | (with_reducible refine Grew.drewN ?_ _) | (with_reducible refine Grew.setRow ?_ (by first | (simp; done) | (simp; omega) | omega) _) | (with_reducible refine Grew.setCell ?_ (by first | (simp; done) | (simp; omega) | omega) _) | ((with_reducible apply Grew.trans); rotate_left; (with_reducible assumption)) | ((with_reducible apply Grew.turn); rotate_left; (with_reducible assumption); (focus (intro i hi; first | omega | (simp at hi; omega)))) | fail)⟩
    case round =>
      obtain ⟨k, n, hk, hgk, rfl, rfl, hn0, hn1, hix, hg⟩ := hrel
      have HGK := Lib.hid hgk
      clear hgk
      by_cases hlt : k < l.length
      · obtain ⟨b, off, f, c, rfl, hb, hlk, ⟨f0, f1, c0, c1⟩, x0, x1⟩ := (HR.out.keep hB hg).at_ hlt
        simp only at f0 f1 c0 c1
        have hbs : b < wr.heap.size := by have := hg.size; omega
        have hws := hg.size
        have hle := clipS_le (f, c)
        rw [drop_cons l k hlt, hlk, atS] at hix
        have HX := Lib.hid hix
        clear hlk hix
        have HC := fun W => Lib.hid (clip_any f c W f0 f1 c0 c1)
        generalize clipS (f, c) = r at *
        obtain ⟨lo, nn⟩ := r
        simp only at hle
        go_wp2_with fail
        refine (HC _).out.mono ?_
        rintro e w1 ⟨rfl, g1⟩
        have hce := g1.cellEq
        have hfe := g1.frozenEq
        have hz1 : wr.heap.size < w1.heap.size := by have := g1.size; simp at this; omega
        by_cases hin : n < (nn : Int)
        · have HF := Lib.hid (HX.out.trans (if_pos hin))
          go_wp2_with fail
          go_ret2
          exact ⟨ret_ib (by rw [HF.out]) (by rw [HF.out]), by (repeat' first | (with_reducible exact Grew.refl _) | (with_reducible assumption) | (with_reducible refine Grew.alloc ?_ _) | (with_reducible refine Grew.drew ?_) | (with_reducible refine Grew.drewN ?_ _) | (with_reducible refine Grew.setRow ?_ (by first | (simp; done) | (simp; omega) | omega) _) | (with_reducible refine Grew.setCell ?_ (by first | (simp; done) | (simp; omega) | omega) _) | ((with_reducible apply Grew.trans); rotate_left; (with_reducible assumption)) | ((with_reducible apply Grew.turn); rotate_left; (with_reducible assumption); (focus (intro i hi; first | omega | (simp at hi; omega)))) | fail)⟩
        · have HF := Lib.hid (HX.out.trans (if_neg hin))
          go_wp2_with fail
          go_roundg (l.length - (k + 1))
          case measure => rw [HGK.out]; omega
          case rel => exact ⟨k + 1, n - nn, by omega, by omega, by go_num, by go_num, by omega, by omega, HF.out, by (repeat' first | (with_reducible exact Grew.refl _) | (with_reducible assumption) | (with_reducible refine Grew.alloc ?_ _) | (with_reducible refine Grew.drew ?_) | (with_reducible refine Grew.drewN ?_ _) | (with_reducible refine Grew.setRow ?_ (by first | (simp; done) | (simp; omega) | omega) _) | (with_reducible refine Grew.setCell ?_ (by first | (simp; done) | (simp; omega) | omega) _) | ((with_reducible apply Grew.trans); rotate_left; (with_reducible assumption)) | ((with_reducible apply Grew.turn); rotate_left; (with_reducible assumption); (focus (intro i hi; first | omega | (simp at hi; omega)))) | fail)⟩
      · rw [List.drop_eq_nil_of_le (by omega), atS] at hix
        have HF := Lib.hid hix
        clear hix
        go_wp2_with fail
        go_ret2
        exact ⟨ret_ib (by rw [HF.out]) (by rw [HF.out]), by (repeat' first | (with_reducible exact Grew.refl _) | (with_reducible assumption) | (with_reducible refine Grew.alloc ?_ _) | (with_reducible refine Grew.drew ?_) | (with_reducible refine Grew.drewN ?_ _) | (with_reducible refine Grew.setRow ?_ (by first | (simp; done) | (simp; omega) | omega) _) | (with_reducible refine Grew.setCell ?_ (by first | (simp; done) | (simp; omega) | omega) _) | ((with_reducible apply Grew.trans); rotate_left; (with_reducible assumption)) | ((with_reducible apply Grew.turn); rotate_left; (with_reducible assumption); (focus (intro i hi; first | omega | (simp at hi; omega)))) | fail)⟩
end
end Go.Proofs.Ytnlaogneceanoaa
namespace Go.Proofs.Ytnlaogneceanoaa
set_option linter.unusedVariables false
set_option linter.unusedSimpArgs false
set_option linter.unusedSectionVars false
open Go.RowKit
def ints (l : List (Nat × Nat)) : List (Int × Int) := l.map fun r => ((r.1 : Int), (r.2 : Int))
theorem ints_len (l : List (Nat × Nat)) : (ints l).length = l.length := by simp [ints]
theorem ints_rows (l : List (Nat × Nat)) : (ints l).map runC = l.map rowN := by simp [ints, runC, rowN]
theorem own_runs {w : World} {base : Nat} {v : Value} {l : List (Nat × Nat)} (h : OwnL w base 58 2 v (l.map rowN)) (hb : ∀ r ∈ l, r.1 + r.2 ≤ 1000000) :
    ∃ A c, v = .slice A (ints l).length c ∧ RunsAt w w.heap.size A (ints l) := by
  obtain ⟨A, c, hv, _, _, hl⟩ := h.listAt
  refine ⟨A, c, by rw [hv, List.length_map, ints_len], ?_, by rw [ints_rows]; exact hl⟩
  intro r hr
  obtain ⟨x, hx, rfl⟩ := List.mem_map.1 hr
  have := hb x hx
  unfold okRun
  simp only []
  omega
theorem OwnL.mono {w : World} {base base' e sz : Nat} {v : Value} {rows : List (List Value)} (h : OwnL w base e sz v rows) (hb : base' ≤ base) : OwnL w base' e sz v rows := by
  refine ⟨h.1, h.2.1, ?_⟩
  rcases h.2.2 with h0 | ⟨g, cap, cur, hv, hg, hr⟩
  · exact .inl h0
  · exact .inr ⟨g, cap, cur, hv, by omega, hr⟩
/-- The two lists, element by element. -/
theorem list_eq_of {l1 l2 : List (Int × Int)} (hl : l1.length = l2.length) (h : ∀ j (h1 : j < l1.length) (h2 : j < l2.length), l1[j] = l2[j]) : l1 = l2 := List.ext_getElem hl h
set_option maxRecDepth 100000 in
set_option maxHeartbeats 4000000 in
theorem equal_any (A1 A2 : Option Addr) (c1 c2 : Nat) (l1 l2 : List (Int × Int)) (w : World) (B : Nat) (hB : B ≤ w.heap.size) (hl1 : l1.length ≤ 1000000) (hl2 : l2.length ≤ 1000000) (hr1 : RunsAt w B A1 l1) (hr2 : RunsAt w B A2 l2) :
    Calls Try.prog 77 #[.slice A1 l1.length c1, .slice A2 l2.length c2] w fun e w' => e = .returned (.bool (decide (l1 = l2))) ∧ Grew w w' := by
  by_cases hlen : l1.length = l2.length
  · have HL := Lib.hid hlen
    have hb : ((l1.length : Int) != (l2.length : Int)) = false := by rw [hlen]; simp
    have HR1 := Lib.hid hr1
    have HR2 := Lib.hid hr2
    clear hr1 hr2 hlen
    go_enter Try.func77, Try.ntmps77
    go_wp2_with fail
    go_loopg [13] l1.length (fun gk i wr => ∃ k : Nat, k ≤ l1.length ∧ gk = l1.length - k ∧ i = .int .i64 k ∧ (∀ j (h1 : j < l1.length) (h2 : j < l2.length), j < k → l1[j] = l2[j]) ∧ Grew w wr)
    case atStart => exact ⟨0, by omega, by omega, rfl, fun j _ _ h => by omega, by (repeat' first | (with_reducible exact Grew.refl _) | (with_reducible assumption) | (with_reducible refine Grew.alloc ?_ _) | (with_reducible refine Grew.drew ?_) | (with_reducible refine Grew.drewN ?_ _) | (with_reducible refine Grew.setRow ?_ (by first | (simp; done) | (simp; omega) | omega) _) | (with_reducible refine Grew.setCell ?_ (by first | (simp; done) | (simp; omega) | omega) _) | ((with_reducible apply Grew.trans); rotate_left; (with_reducible assumption)) | ((with_reducible apply Grew.turn); rotate_left; (with_reducible assumption); (focus (intro i hi; first | omega | (simp at hi; omega)))) | fail)⟩
    case round =>
      obtain ⟨k, hk, hgk, rfl, hall, hg⟩ := hrel
      have HGK := Lib.hid hgk
      have HA := Lib.hid hall
      clear hgk hall
      by_cases hlt : k < l1.length
      · have hlt2 : k < l2.length := by rw [← HL.out]; exact hlt
        obtain ⟨b, off, f, c, rfl, hb1, hlk, -, x0, x1⟩ := (HR1.out.keep hB hg).at_ hlt
        obtain ⟨b', off', f', c', rfl, hb2, hlk', -, y0, y1⟩ := (HR2.out.keep hB hg).at_ hlt2
        have HK := Lib.hid hlk
        have HK' := Lib.hid hlk'
        clear hlk hlk'
        by_cases heq : f = f' ∧ c = c'
        · obtain ⟨rfl, rfl⟩ := heq
          go_wp2_with fail
          go_quiet (fail)
          go_wp2_with fail
          go_roundg (l1.length - (k + 1))
          case measure => rw [HGK.out]; omega
          case rel =>
            refine ⟨k + 1, by omega, by omega, by go_num, fun j h1 h2 hj => ?_, by (repeat' first | (with_reducible exact Grew.refl _) | (with_reducible assumption) | (with_reducible refine Grew.alloc ?_ _) | (with_reducible refine Grew.drew ?_) | (with_reducible refine Grew.drewN ?_ _) | (with_reducible refine Grew.setRow ?_ (by first | (simp; done) | (simp; omega) | omega) _) | (with_reducible refine Grew.setCell ?_ (by first | (simp; done) | (simp; omega) | omega) _) | ((with_reducible apply Grew.trans); rotate_left; (with_reducible assumption)) | ((with_reducible apply Grew.turn); rotate_left; (with_reducible assumption); (focus (intro i hi; first | omega | (simp at hi; omega)))) | fail)⟩
            by_cases hjk : j = k
            · subst hjk; rw [HK.out, HK'.out]
            · exact HA.out j h1 h2 (by omega)
        · have HD := Lib.hid (show decide (l1 = l2) = false from by
            rw [decide_eq_false_iff_not]
            intro h
            apply heq
            have h2 : l1[k] = l2[k] := by simp only [h]
            rw [HK.out, HK'.out] at h2
            exact ⟨congrArg Prod.fst h2, congrArg Prod.snd h2⟩)
          by_cases hf : f = f'
          · subst hf
            have hb2 : (c == c') = false := beq_eq_false_iff_ne.2 (fun h => heq ⟨rfl, h⟩)
            clear heq
            go_wp2_with fail
            go_quiet (fail)
            go_wp2_with fail
            go_ret
            exact ⟨ret_bool (by rw [HD.out]), by (repeat' first | (with_reducible exact Grew.refl _) | (with_reducible assumption) | (with_reducible refine Grew.alloc ?_ _) | (with_reducible refine Grew.drew ?_) | (with_reducible refine Grew.drewN ?_ _) | (with_reducible refine Grew.setRow ?_ (by first | (simp; done) | (simp; omega) | omega) _) | (with_reducible refine Grew.setCell ?_ (by first | (simp; done) | (simp; omega) | omega) _) | ((with_reducible apply Grew.trans); rotate_left; (with_reducible assumption)) | ((with_reducible apply Grew.turn); rotate_left; (with_reducible assumption); (focus (intro i hi; first | omega | (simp at hi; omega)))) | fail)⟩
          · have hb2 : (f == f') = false := beq_eq_false_iff_ne.2 hf
            clear heq
            go_wp2_with fail
            go_quiet (fail)
            go_wp2_with fail
            go_ret
            exact ⟨ret_bool (by rw [HD.out]), by (repeat' first | (with_reducible exact Grew.refl _) | (with_reducible assumption) | (with_reducible refine Grew.alloc ?_ _) | (with_reducible refine Grew.drew ?_) | (with_reducible refine Grew.drewN ?_ _) | (with_reducible refine Grew.setRow ?_ (by first | (simp; done) | (simp; omega) | omega) _) | (with_reducible refine Grew.setCell ?_ (by first | (simp; done) | (simp; omega) | omega) _) | ((with_reducible apply Grew.trans); rotate_left; (with_reducible assumption)) | ((with_reducible apply Grew.turn); rotate_left; (with_reducible assumption); (focus (intro i hi; first | omega | (simp at hi; omega)))) | fail)⟩
      · have HD := Lib.hid (show decide (l1 = l2) = true from by
          rw [decide_eq_true_eq]
          exact list_eq_of HL.out (fun j h1 h2 => HA.out j h1 h2 (by omega)))
        go_wp2_with fail
        go_ret
        exact ⟨ret_bool (by rw [HD.out]), by (repeat' first | (with_reducible exact Grew.refl _) | (with_reducible assumption) | (with_reducible refine Grew.alloc ?_ _) | (with_reducible refine Grew.drew ?_) | (with_reducible refine Grew.drewN ?_ _) | (with_reducible refine Grew.setRow ?_ (by first | (simp; done) | (simp; omega) | omega) _) | (with_reducible refine Grew.setCell ?_ (by first | (simp; done) | (simp; omega) | omega) _) | ((with_reducible apply Grew.trans); rotate_left; (with_reducible assumption)) | ((with_reducible apply Grew.turn); rotate_left; (with_reducible assumption); (focus (intro i hi; first | omega | (simp at hi; omega)))) | fail)⟩
  · have HD := Lib.hid (show decide (l1 = l2) = false from by
      rw [decide_eq_false_iff_not]; intro h; exact hlen (by rw [h]))
    have hb : ((l1.length : Int) != (l2.length : Int)) = true := by rw [bne_iff_ne]; omega
    clear hlen
    go_enter Try.func77, Try.ntmps77
    go_wp2_with fail
    go_ret
    exact ⟨ret_bool (by rw [HD.out]), by (repeat' first | (with_reducible exact Grew.refl _) | (with_reducible assumption) | (with_reducible refine Grew.alloc ?_ _) | (with_reducible refine Grew.drew ?_) | (with_reducible refine Grew.drewN ?_ _) | (with_reducible refine Grew.setRow ?_ (by first | (simp; done) | (simp; omega) | omega) _) | (with_reducible refine Grew.setCell ?_ (by first | (simp; done) | (simp; omega) | omega) _) | ((with_reducible apply Grew.trans); rotate_left; (with_reducible assumption)) | ((with_reducible apply Grew.turn); rotate_left; (with_reducible assumption); (focus (intro i hi; first | omega | (simp at hi; omega)))) | fail)⟩
set_option maxRecDepth 100000 in
set_option maxHeartbeats 4000000 in
theorem same_any (A1 A2 : Option Addr) (c1 c2 : Nat) (l1 l2 : List (Int × Int)) (w : World) (B : Nat) (hB : B ≤ w.heap.size) (hl1 : l1.length ≤ 1000000) (hl2 : l2.length ≤ 1000000) (hr1 : RunsAt w B A1 l1) (hr2 : RunsAt w B A2 l2) :
    Calls Try.prog 17 #[.slice A1 l1.length c1, .slice A2 l2.length c2] w fun e w' => e = .returned (.bool (decide (l1 = l2))) ∧ Grew w w' := by
  by_cases hlen : l1.length = l2.length
  · have HL := Lib.hid hlen
    have hb : ((l1.length : Int) != (l2.length : Int)) = false := by rw [hlen]; simp
    have HR1 := Lib.hid hr1
    have HR2 := Lib.hid hr2
    clear hr1 hr2 hlen
    go_enter Try.func17, Try.ntmps17
    go_wp2_with fail
    go_loopg [5] l1.length (fun gk i wr => ∃ k : Nat, k ≤ l1.length ∧ gk = l1.length - k ∧ i = .int .i64 k ∧ (∀ j (h1 : j < l1.length) (h2 : j < l2.length), j < k → l1[j] = l2[j]) ∧ Grew w wr)
    case atStart => exact ⟨0, by omega, by omega, rfl, fun j _ _ h => by omega, by (repeat' first | (with_reducible exact Grew.refl _) | (with_reducible assumption) | (with_reducible refine Grew.alloc ?_ _) | (with_reducible refine Grew.drew ?_) | (with_reducible refine Grew.drewN ?_ _) | (with_reducible refine Grew.setRow ?_ (by first | (simp; done) | (simp; omega) | omega) _) | (with_reducible refine Grew.setCell ?_ (by first | (simp; done) | (simp; omega) | omega) _) | ((with_reducible apply Grew.trans); rotate_left; (with_reducible assumption)) | ((with_reducible apply Grew.turn); rotate_left; (with_reducible assumption); (focus (intro i hi; first | omega | (simp at hi; omega)))) | fail)⟩
    case round =>
      obtain ⟨k, hk, hgk, rfl, hall, hg⟩ := hrel
      have HGK := Lib.hid hgk
      have HA := Lib.hid hall
      clear hgk hall
      by_cases hlt : k < l1.length
      · have hlt2 : k < l2.length := by rw [← HL.out]; exact hlt
        obtain ⟨b, off, f, c, rfl, hb1, hlk, -, x0, x1⟩ := (HR1.out.keep hB hg).at_ hlt
        obtain ⟨b', off', f', c', rfl, hb2, hlk', -, y0, y1⟩ := (HR2.out.keep hB hg).at_ hlt2
        have HK := Lib.hid hlk
        have HK' := Lib.hid hlk'
        clear hlk hlk'
        by_cases heq : f = f' ∧ c = c'
        · obtain ⟨rfl, rfl⟩ := heq
          go_wp2_with fail
          go_quiet (fail)
          go_wp2_with fail
          go_roundg (l1.length - (k + 1))
          case measure => rw [HGK.out]; omega
          case rel =>
            refine ⟨k + 1, by omega, by omega, by go_num, fun j h1 h2 hj => ?_, by (repeat' first | (with_reducible exact Grew.refl _) | (with_reducible assumption) | (with_reducible refine Grew.alloc ?_ _) | (with_reducible refine Grew.drew ?_) | (with_reducible refine Grew.drewN ?_ _) | (with_reducible refine Grew.setRow ?_ (by first | (simp; done) | (simp; omega) | omega) _) | (with_reducible refine Grew.setCell ?_ (by first | (simp; done) | (simp; omega) | omega) _) | ((with_reducible apply Grew.trans); rotate_left; (with_reducible assumption)) | ((with_reducible apply Grew.turn); rotate_left; (with_reducible assumption); (focus (intro i hi; first | omega | (simp at hi; omega)))) | fail)⟩
            by_cases hjk : j = k
            · subst hjk; rw [HK.out, HK'.out]
            · exact HA.out j h1 h2 (by omega)
        · have HD := Lib.hid (show decide (l1 = l2) = false from by
            rw [decide_eq_false_iff_not]
            intro h
            apply heq
            have h2 : l1[k] = l2[k] := by simp only [h]
            rw [HK.out, HK'.out] at h2
            exact ⟨congrArg Prod.fst h2, congrArg Prod.snd h2⟩)
          by_cases hf : f = f'
          · subst hf
            have hb2 : (c == c') = false := beq_eq_false_iff_ne.2 (fun h => heq ⟨rfl, h⟩)
            clear heq
            go_wp2_with fail
            go_quiet (fail)
            go_wp2_with fail
            go_ret
            exact ⟨ret_bool (by rw [HD.out]), by (repeat' first | (with_reducible exact Grew.refl _) | (with_reducible assumption) | (with_reducible refine Grew.alloc ?_ _) | (with_reducible refine Grew.drew ?_) | (with_reducible refine Grew.drewN ?_ _) | (with_reducible refine Grew.setRow ?_ (by first | (simp; done) | (simp; omega) | omega) _) | (with_reducible refine Grew.setCell ?_ (by first | (simp; done) | (simp; omega) | omega) _) | ((with_reducible apply Grew.trans); rotate_left; (with_reducible assumption)) | ((with_reducible apply Grew.turn); rotate_left; (with_reducible assumption); (focus (intro i hi; first | omega | (simp at hi; omega)))) | fail)⟩
          · have hb2 : (f == f') = false := beq_eq_false_iff_ne.2 hf
            clear heq
            go_wp2_with fail
            go_quiet (fail)
            go_wp2_with fail
            go_ret
            exact ⟨ret_bool (by rw [HD.out]), by (repeat' first | (with_reducible exact Grew.refl _) | (with_reducible assumption) | (with_reducible refine Grew.alloc ?_ _) | (with_reducible refine Grew.drew ?_) | (with_reducible refine Grew.drewN ?_ _) | (with_reducible refine Grew.setRow ?_ (by first | (simp; done) | (simp; omega) | omega) _) | (with_reducible refine Grew.setCell ?_ (by first | (simp; done) | (simp; omega) | omega) _) | ((with_reducible apply Grew.trans); rotate_left; (with_reducible assumption)) | ((with_reducible apply Grew.turn); rotate_left; (with_reducible assumption); (focus (intro i hi; first | omega | (simp at hi; omega)))) | fail)⟩
      · have HD := Lib.hid (show decide (l1 = l2) = true from by
          rw [decide_eq_true_eq]
          exact list_eq_of HL.out (fun j h1 h2 => HA.out j h1 h2 (by omega)))
        go_wp2_with fail
        go_ret
        exact ⟨ret_bool (by rw [HD.out]), by (repeat' first | (with_reducible exact Grew.refl _) | (with_reducible assumption) | (with_reducible refine Grew.alloc ?_ _) | (with_reducible refine Grew.drew ?_) | (with_reducible refine Grew.drewN ?_ _) | (with_reducible refine Grew.setRow ?_ (by first | (simp; done) | (simp; omega) | omega) _) | (with_reducible refine Grew.setCell ?_ (by first | (simp; done) | (simp; omega) | omega) _) | ((with_reducible apply Grew.trans); rotate_left; (with_reducible assumption)) | ((with_reducible apply Grew.turn); rotate_left; (with_reducible assumption); (focus (intro i hi; first | omega | (simp at hi; omega)))) | fail)⟩
  · have HD := Lib.hid (show decide (l1 = l2) = false from by
      rw [decide_eq_false_iff_not]; intro h; exact hlen (by rw [h]))
    have hb : ((l1.length : Int) != (l2.length : Int)) = true := by rw [bne_iff_ne]; omega
    clear hlen
    go_enter Try.func17, Try.ntmps17
    go_wp2_with fail
    go_ret
    exact ⟨ret_bool (by rw [HD.out]), by (repeat' first | (with_reducible exact Grew.refl _) | (with_reducible assumption) | (with_reducible refine Grew.alloc ?_ _) | (with_reducible refine Grew.drew ?_) | (with_reducible refine Grew.drewN ?_ _) | (with_reducible refine Grew.setRow ?_ (by first | (simp; done) | (simp; omega) | omega) _) | (with_reducible refine Grew.setCell ?_ (by first | (simp; done) | (simp; omega) | omega) _) | ((with_reducible apply Grew.trans); rotate_left; (with_reducible assumption)) | ((with_reducible apply Grew.turn); rotate_left; (with_reducible assumption); (focus (intro i hi; first | omega | (simp at hi; omega)))) | fail)⟩
set_option maxRecDepth 100000 in
set_option maxHeartbeats 4000000 in
theorem normal_any (A : Option Addr) (c : Nat) (l : List (Int × Int)) (w : World) (B : Nat) (hB : B ≤ w.heap.size) (hl : l.length ≤ 1000000) (hr : RunsAt w B A l) :
    Calls Try.prog 25 #[.slice A l.length c] w fun e w' => ∃ v, e = .returned v ∧ OwnL w' w.heap.size 58 2 v ((normS (memS l)).map rowN) ∧ Grew w w' := by
  have hz := zero_set
  go_enter Try.func25, Try.ntmps25
  go_wp2_with fail
  refine (of_any A c l w B hB (by omega) hr).mono ?_
  rintro e w1 ⟨rfl, g1⟩
  have hb := Blk.new w1 92 (boolArr fun _ => false) rfl
  go_wp2_with (refine wpList_store_blk rfl 92 _ _ rfl w1.heap.size (boolArr (memS l)) rfl rfl 92 _ hb (by rw [boolArr_size, boolArr_size]) (by rw [boolArr_size]; exact info_set) (boolArr_one _) ?_)
  refine (runs_any w1.heap.size (memS l) _ (hb.setRow _)).mono ?_
  rintro e w2 ⟨v, rfl, hown, g2⟩
  have hge : w.heap.size ≤ w1.heap.size := g1.size
  go_wp2_with fail
  go_ret
  exact ⟨v, rfl, hown.mono (by simp [World.setRow]; omega), by (repeat' first | (with_reducible exact Grew.refl _) | (with_reducible assumption) | (with_reducible refine Grew.alloc ?_ _) | (with_reducible refine Grew.drew ?_) | (with_reducible refine Grew.drewN ?_ _) | (with_reducible refine Grew.setRow ?_ (by first | (simp; done) | (simp; omega) | omega) _) | (with_reducible refine Grew.setCell ?_ (by first | (simp; done) | (simp; omega) | omega) _) | ((with_reducible apply Grew.trans); rotate_left; (with_reducible assumption)) | ((with_reducible apply Grew.turn); rotate_left; (with_reducible assumption); (focus (intro i hi; first | omega | (simp at hi; omega)))) | fail)⟩
end Go.Proofs.Ytnlaogneceanoaa
namespace Go.Proofs.Ytnlaogneceanoaa
set_option linter.unusedVariables false
set_option linter.unusedSimpArgs false
set_option linter.unusedSectionVars false
open Go.RowKit
set_option maxRecDepth 100000 in
theorem bit_any (b : Bool) (w : World) : Calls Try.prog 126 #[.bool b] w fun e w' => e = .returned (.int .i64 (if b then 1 else 0)) ∧ w = w' := by
  cases b
  all_goals
    go_enter Try.func126, Try.ntmps126
    go_wp2
    go_ret
    exact ⟨rfl, rfl⟩
theorem mix_step (k i : Nat) (r : Bool) (F : Nat → Bool) (h : F k = r) : (if i = k then r else if i < k then F i else false) = (if i < k + 1 then F i else false) := by
  by_cases hi : i = k
  · subst hi; rw [if_pos rfl, if_pos (by omega), h]
  · rw [if_neg hi]
    by_cases hk : i < k
    · rw [if_pos hk, if_pos (by omega)]
    · rw [if_neg hk, if_neg (by omega)]
def tbS (t : Bool × Bool × Bool × Bool) (x y : Bool) : Bool := if x then (if y then t.2.2.2 else t.2.2.1) else (if y then t.2.1 else t.1)
set_option maxRecDepth 100000 in
set_option maxHeartbeats 4000000 in
theorem mix_any (A1 A2 : Option Addr) (c1 c2 : Nat) (l1 l2 : List (Int × Int)) (t : Bool × Bool × Bool × Bool) (w : World) (B : Nat) (hB : B ≤ w.heap.size) (hl1 : l1.length ≤ 1000000) (hl2 : l2.length ≤ 1000000) (hr1 : RunsAt w B A1 l1) (hr2 : RunsAt w B A2 l2) :
    Calls Try.prog 116 #[.slice A1 l1.length c1, .slice A2 l2.length c2, .agg #[.bool t.1, .bool t.2.1, .bool t.2.2.1, .bool t.2.2.2]] w fun e w' => ∃ v, e = .returned v ∧ OwnL w' w.heap.size 58 2 v ((normS fun i => tbS t (memS l1 i) (memS l2 i)).map rowN) ∧ Grew w w' := by
  have hz := zero_set
  obtain ⟨t0, t1, t2, t3⟩ := t
  go_enter Try.func116, Try.ntmps116
  go_wp2_with fail
  refine (of_any A1 c1 l1 _ B (by simp; omega) (by omega) (hr1.keep hB (by (repeat' first | (with_reducible exact Grew.refl _) | (with_reducible assumption) | (with_reducible refine Grew.alloc ?_ _) | (with_reducible refine Grew.drew ?_) | (with_reducible refine Grew.drewN ?_ _) | (with_reducible refine Grew.setRow ?_ (by first | (simp; done) | (simp; omega) | omega) _) | (with_reducible refine Grew.setCell ?_ (by first | (simp; done) | (simp; omega) | omega) _) | ((with_reducible apply Grew.trans); rotate_left; (with_reducible assumption)) | ((with_reducible apply Grew.turn); rotate_left; (with_reducible assumption); (focus (intro i hi; first | omega | (simp at hi; omega)))) | fail)))).mono ?_
  rintro e w1 ⟨rfl, g1⟩
  have hg1 : Grew w w1 := by (repeat' first | (with_reducible exact Grew.refl _) | (with_reducible assumption) | (with_reducible refine Grew.alloc ?_ _) | (with_reducible refine Grew.drew ?_) | (with_reducible refine Grew.drewN ?_ _) | (with_reducible refine Grew.setRow ?_ (by first | (simp; done) | (simp; omega) | omega) _) | (with_reducible refine Grew.setCell ?_ (by first | (simp; done) | (simp; omega) | omega) _) | ((with_reducible apply Grew.trans); rotate_left; (with_reducible assumption)) | ((with_reducible apply Grew.turn); rotate_left; (with_reducible assumption); (focus (intro i hi; first | omega | (simp at hi; omega)))) | fail)
  have ht1 : Blk w1 w.heap.size 149 #[.bool t0, .bool t1, .bool t2, .bool t3] := (Blk.new w _ _ rfl).grew g1
  clear g1
  go_wp2_with fail
  refine (of_any A2 c2 l2 w1 B (Nat.le_trans hB hg1.size) (by omega) (hr2.keep hB hg1)).mono ?_
  rintro e w2 ⟨rfl, g2⟩
  have hg2 : Grew w w2 := hg1.trans g2
  have ht2 := ht1.grew g2
  have hws := hg2.size
  clear hg1 ht1 g2
  have hbx : Blk ((w2.alloc (.cells (boolArr fun _ => false) 92)).alloc (.cells (boolArr fun _ => false) 92)) w2.heap.size 92 (boolArr fun _ => false) := by (apply Blk.conv; (· (repeat' first | (with_reducible assumption) | (with_reducible apply Blk.setRow) | ((with_reducible apply Blk.farRow); rotate_left; (focus (first | (simp; done) | (simp; omega) | omega))) | (with_reducible apply Blk.drew) | (with_reducible apply Blk.drewN) | (with_reducible apply Blk.set_) | (with_reducible exact Blk.new _ _ _ (by first | rfl | (simp; done) | (simp; omega))) | (with_reducible apply Blk.alloc) | ((with_reducible apply Blk.far); rotate_left; (focus (first | (simp; done) | (simp; omega) | omega))) | ((with_reducible apply Blk.grew); rotate_left; (with_reducible assumption)) | ((with_reducible apply Blk.turned); rotate_left; (with_reducible assumption); (focus (first | (simp; done) | (simp; omega) | omega))) | fail)); (· rfl))
  have hby : Blk (((w2.alloc (.cells (boolArr fun _ => false) 92)).alloc (.cells (boolArr fun _ => false) 92)).setRow w2.heap.size (boolArr (memS l1))) (w2.heap.size + 1) 92 (boolArr fun _ => false) := by (apply Blk.conv; (· (repeat' first | (with_reducible assumption) | (with_reducible apply Blk.setRow) | ((with_reducible apply Blk.farRow); rotate_left; (focus (first | (simp; done) | (simp; omega) | omega))) | (with_reducible apply Blk.drew) | (with_reducible apply Blk.drewN) | (with_reducible apply Blk.set_) | (with_reducible exact Blk.new _ _ _ (by first | rfl | (simp; done) | (simp; omega))) | (with_reducible apply Blk.alloc) | ((with_reducible apply Blk.far); rotate_left; (focus (first | (simp; done) | (simp; omega) | omega))) | ((with_reducible apply Blk.grew); rotate_left; (with_reducible assumption)) | ((with_reducible apply Blk.turned); rotate_left; (with_reducible assumption); (focus (first | (simp; done) | (simp; omega) | omega))) | fail)); (· rfl))
  go_wp2_with (first | (refine wpList_store_blk rfl 92 _ _ rfl w2.heap.size (boolArr (memS l1)) rfl rfl 92 _ hbx (by rw [boolArr_size, boolArr_size]) (by rw [boolArr_size]; exact info_set) (boolArr_one _) ?_) | (refine wpList_store_blk rfl 92 _ _ rfl (w2.heap.size + 1) (boolArr (memS l2)) rfl rfl 92 _ hby (by rw [boolArr_size, boolArr_size]) (by rw [boolArr_size]; exact info_set) (boolArr_one _) ?_))
  have htx := ((((ht2.alloc (.cells (boolArr fun _ => false) 92)).alloc (.cells (boolArr fun _ => false) 92)).farRow (g' := w2.heap.size) (by have := ht2.lt; omega) (boolArr (memS l1))).farRow (g' := w2.heap.size + 1) (by have := ht2.lt; omega) (boolArr (memS l2))).alloc (.cells (boolArr fun _ => false) 92)
  have hgx : w.heap.size < w2.heap.size := ht2.lt
  go_loopg [16] 128 (fun gk i wr => ∃ k : Nat, k ≤ 128 ∧ gk = 128 - k ∧ i = .int .i64 k ∧ Blk wr w.heap.size 149 #[.bool t0, .bool t1, .bool t2, .bool t3] ∧ Blk wr w2.heap.size 92 (boolArr (memS l1)) ∧ Blk wr (w2.heap.size + 1) 92 (boolArr (memS l2)) ∧ Blk wr (w2.heap.size + 1 + 1) 92 (boolArr fun i => if i < k then tbS (t0, t1, t2, t3) (memS l1 i) (memS l2 i) else false) ∧ Grew w wr)
  case atStart => exact ⟨0, by omega, by omega, rfl, htx, by (apply Blk.conv; (· (repeat' first | (with_reducible assumption) | (with_reducible apply Blk.setRow) | ((with_reducible apply Blk.farRow); rotate_left; (focus (first | (simp; done) | (simp; omega) | omega))) | (with_reducible apply Blk.drew) | (with_reducible apply Blk.drewN) | (with_reducible apply Blk.set_) | (with_reducible exact Blk.new _ _ _ (by first | rfl | (simp; done) | (simp; omega))) | (with_reducible apply Blk.alloc) | ((with_reducible apply Blk.far); rotate_left; (focus (first | (simp; done) | (simp; omega) | omega))) | ((with_reducible apply Blk.grew); rotate_left; (with_reducible assumption)) | ((with_reducible apply Blk.turned); rotate_left; (with_reducible assumption); (focus (first | (simp; done) | (simp; omega) | omega))) | fail)); (· rfl)), by (apply Blk.conv; (· (repeat' first | (with_reducible assumption) | (with_reducible apply Blk.setRow) | ((with_reducible apply Blk.farRow); rotate_left; (focus (first | (simp; done) | (simp; omega) | omega))) | (with_reducible apply Blk.drew) | (with_reducible apply Blk.drewN) | (with_reducible apply Blk.set_) | (with_reducible exact Blk.new _ _ _ (by first | rfl | (simp; done) | (simp; omega))) | (with_reducible apply Blk.alloc) | ((with_reducible apply Blk.far); rotate_left; (focus (first | (simp; done) | (simp; omega) | omega))) | ((with_reducible apply Blk.grew); rotate_left; (with_reducible assumption)) | ((with_reducible apply Blk.turned); rotate_left; (with_reducible assumption); (focus (first | (simp; done) | (simp; omega) | omega))) | fail)); (· rfl)), by (apply Blk.conv; (· (repeat' first | (with_reducible assumption) | (with_reducible apply Blk.setRow) | ((with_reducible apply Blk.farRow); rotate_left; (focus (first | (simp; done) | (simp; omega) | omega))) | (with_reducible apply Blk.drew) | (with_reducible apply Blk.drewN) | (with_reducible apply Blk.set_) | (with_reducible exact Blk.new _ _ _ (by first | rfl | (simp; done) | (simp; omega))) | (with_reducible apply Blk.alloc) | ((with_reducible apply Blk.far); rotate_left; (focus (first | (simp; done) | (simp; omega) | omega))) | ((with_reducible apply Blk.grew); rotate_left; (with_reducible assumption)) | ((with_reducible apply Blk.turned); rotate_left; (with_reducible assumption); (focus (first | (simp; done) | (simp; omega) | omega))) | fail)); (· rfl)), by (repeat' first | (with_reducible exact Grew.refl _) | (with_reducible assumption) | (with_reducible refine Grew.alloc ?_ _) | (with_reducible refine Grew.drew ?_) | (with_reducible refine Grew.drewN ?_ _) | (with_reducible refine Grew.setRow ?_ (by first | (simp; done) | (simp; omega) | omega) _) | (with_reducible refine Grew.setCell ?_ (by first | (simp; done) | (simp; omega) | omega) _) | ((with_reducible apply Grew.trans); rotate_left; (with_reducible assumption)) | ((with_reducible apply Grew.turn); rotate_left; (with_reducible assumption); (focus (intro i hi; first | omega | (simp at hi; omega)))) | fail)⟩
  case round =>
    clear htx hbx hby ht2 hg2
    obtain ⟨k, hk, hgk, rfl, hbt, hbx, hby, hbs, hg⟩ := hrel
    have HGK := Lib.hid hgk
    clear hgk
    have hzs := hbs.lt
    by_cases hlt : k < 128
    · have cx := hbx.cell k
      rw [boolArr_get _ _ hlt] at cx
      have cy := hby.cell k
      rw [boolArr_get _ _ hlt] at cy
      have cs := hbs.cell k
      rw [boolArr_get _ _ hlt] at cs
      have fs := hbs.frozen k
      have q0 := hbt.cell 0
      have q1 := hbt.cell 1
      have q2 := hbt.cell 2
      have q3 := hbt.cell 3
      have hn1 : ¬ w.heap.size = w2.heap.size + 1 + 1 := by omega
      have hn2 : ¬ w2.heap.size + 1 + 1 = w.heap.size := by omega
      have hks : ∀ v, (wr.setCell ⟨w2.heap.size + 1 + 1, k, none⟩ v).cell? ⟨w2.heap.size, k, none⟩ = wr.cell? ⟨w2.heap.size, k, none⟩ := fun v => World.cell?_setCell_other _ _ _ _ (fun e => by injection e; omega)
      have hkn : (0 : Int) ≤ (k : Int) := by omega
      have hkn2 : (k : Int) < 128 := by omega
      rcases hX : memS l1 k with _ | _ <;> rcases hY : memS l2 k with _ | _
      · rw [hX] at cx
        rw [hY] at cy
        have HX := Lib.hid hX
        have HY := Lib.hid hY
        clear hX hY
        go_wp2_with fail
        go_region_held3 (fun w' => w'.cell? ⟨w2.heap.size, k, none⟩ = some (.bool false) ∧ w'.cell? ⟨w2.heap.size + 1, k, none⟩ = some (.bool false) ∧ w'.cell? ⟨w.heap.size, 0, none⟩ = some (.bool t0) ∧ w'.cell? ⟨w.heap.size, 1, none⟩ = some (.bool t1) ∧ w'.cell? ⟨w.heap.size, 2, none⟩ = some (.bool t2) ∧ w'.cell? ⟨w.heap.size, 3, none⟩ = some (.bool t3)) (go_keep) (first | (go_at_call 126; refine (bit_any _ _).mono ?_; rintro e w' ⟨rfl, rfl⟩))
        go_wp2_with fail
        go_roundg (128 - (k + 1))
        case measure => rw [HGK.out]; omega
        case rel => exact ⟨k + 1, by omega, by omega, by go_num, by (apply Blk.conv; (· (repeat' first | (with_reducible assumption) | (with_reducible apply Blk.setRow) | ((with_reducible apply Blk.farRow); rotate_left; (focus (first | (simp; done) | (simp; omega) | omega))) | (with_reducible apply Blk.drew) | (with_reducible apply Blk.drewN) | (with_reducible apply Blk.set_) | (with_reducible exact Blk.new _ _ _ (by first | rfl | (simp; done) | (simp; omega))) | (with_reducible apply Blk.alloc) | ((with_reducible apply Blk.far); rotate_left; (focus (first | (simp; done) | (simp; omega) | omega))) | ((with_reducible apply Blk.grew); rotate_left; (with_reducible assumption)) | ((with_reducible apply Blk.turned); rotate_left; (with_reducible assumption); (focus (first | (simp; done) | (simp; omega) | omega))) | fail)); (· rfl)), by (apply Blk.conv; (· (repeat' first | (with_reducible assumption) | (with_reducible apply Blk.setRow) | ((with_reducible apply Blk.farRow); rotate_left; (focus (first | (simp; done) | (simp; omega) | omega))) | (with_reducible apply Blk.drew) | (with_reducible apply Blk.drewN) | (with_reducible apply Blk.set_) | (with_reducible exact Blk.new _ _ _ (by first | rfl | (simp; done) | (simp; omega))) | (with_reducible apply Blk.alloc) | ((with_reducible apply Blk.far); rotate_left; (focus (first | (simp; done) | (simp; omega) | omega))) | ((with_reducible apply Blk.grew); rotate_left; (with_reducible assumption)) | ((with_reducible apply Blk.turned); rotate_left; (with_reducible assumption); (focus (first | (simp; done) | (simp; omega) | omega))) | fail)); (· rfl)), by (apply Blk.conv; (· (repeat' first | (with_reducible assumption) | (with_reducible apply Blk.setRow) | ((with_reducible apply Blk.farRow); rotate_left; (focus (first | (simp; done) | (simp; omega) | omega))) | (with_reducible apply Blk.drew) | (with_reducible apply Blk.drewN) | (with_reducible apply Blk.set_) | (with_reducible exact Blk.new _ _ _ (by first | rfl | (simp; done) | (simp; omega))) | (with_reducible apply Blk.alloc) | ((with_reducible apply Blk.far); rotate_left; (focus (first | (simp; done) | (simp; omega) | omega))) | ((with_reducible apply Blk.grew); rotate_left; (with_reducible assumption)) | ((with_reducible apply Blk.turned); rotate_left; (with_reducible assumption); (focus (first | (simp; done) | (simp; omega) | omega))) | fail)); (· rfl)), by (apply Blk.conv; (· (repeat' first | (with_reducible assumption) | (with_reducible apply Blk.setRow) | ((with_reducible apply Blk.farRow); rotate_left; (focus (first | (simp; done) | (simp; omega) | omega))) | (with_reducible apply Blk.drew) | (with_reducible apply Blk.drewN) | (with_reducible apply Blk.set_) | (with_reducible exact Blk.new _ _ _ (by first | rfl | (simp; done) | (simp; omega))) | (with_reducible apply Blk.alloc) | ((with_reducible apply Blk.far); rotate_left; (focus (first | (simp; done) | (simp; omega) | omega))) | ((with_reducible apply Blk.grew); rotate_left; (with_reducible assumption)) | ((with_reducible apply Blk.turned); rotate_left; (with_reducible assumption); (focus (first | (simp; done) | (simp; omega) | omega))) | fail)); (· rw [boolArr_set]; exact boolArr_congr fun i _ => mix_step k i t0 (fun i => tbS (t0, t1, t2, t3) (memS l1 i) (memS l2 i)) (by show tbS _ (memS l1 k) (memS l2 k) = _; rw [HX.out, HY.out]; rfl))), by (repeat' first | (with_reducible exact Grew.refl _) | (with_reducible assumption) | (with_reducible refine Grew.alloc ?_ _) | (with_reducible refine Grew.drew ?_) | (with_reducible refine Grew.drewN ?_ _) | (with_reducible refine Grew.setRow ?_ (by first | (simp; done) | (simp; omega) | omega) _) | (with_reducible refine Grew.setCell ?_ (by first | (simp; done) | (simp; omega) | omega) _) | ((with_reducible apply Grew.trans); rotate_left; (with_reducible assumption)) | ((with_reducible apply Grew.turn); rotate_left; (with_reducible assumption); (focus (intro i hi; first | omega | (simp at hi; omega)))) | fail)⟩
      · rw [hX] at cx
        rw [hY] at cy
        have HX := Lib.hid hX
        have HY := Lib.hid hY
        clear hX hY
        go_wp2_with fail
        go_region_held3 (fun w' => w'.cell? ⟨w2.heap.size, k, none⟩ = some (.bool false) ∧ w'.cell? ⟨w2.heap.size + 1, k, none⟩ = some (.bool true) ∧ w'.cell? ⟨w.heap.size, 0, none⟩ = some (.bool t0) ∧ w'.cell? ⟨w.heap.size, 1, none⟩ = some (.bool t1) ∧ w'.cell? ⟨w.heap.size, 2, none⟩ = some (.bool t2) ∧ w'.cell? ⟨w.heap.size, 3, none⟩ = some (.bool t3)) (go_keep) (first | (go_at_call 126; refine (bit_any _ _).mono ?_; rintro e w' ⟨rfl, rfl⟩))
        go_wp2_with fail
        go_roundg (128 - (k + 1))
        case measure => rw [HGK.out]; omega
        case rel => exact ⟨k + 1, by omega, by omega, by go_num, by (apply Blk.conv; (· (repeat' first | (with_reducible assumption) | (with_reducible apply Blk.setRow) | ((with_reducible apply Blk.farRow); rotate_left; (focus (first | (simp; done) | (simp; omega) | omega))) | (with_reducible apply Blk.drew) | (with_reducible apply Blk.drewN) | (with_reducible apply Blk.set_) | (with_reducible exact Blk.new _ _ _ (by first | rfl | (simp; done) | (simp; omega))) | (with_reducible apply Blk.alloc) | ((with_reducible apply Blk.far); rotate_left; (focus (first | (simp; done) | (simp; omega) | omega))) | ((with_reducible apply Blk.grew); rotate_left; (with_reducible assumption)) | ((with_reducible apply Blk.turned); rotate_left; (with_reducible assumption); (focus (first | (simp; done) | (simp; omega) | omega))) | fail)); (· rfl)), by (apply Blk.conv; (· (repeat' first | (with_reducible assumption) | (with_reducible apply Blk.setRow) | ((with_reducible apply Blk.farRow); rotate_left; (focus (first | (simp; done) | (simp; omega) | omega))) | (with_reducible apply Blk.drew) | (with_reducible apply Blk.drewN) | (with_reducible apply Blk.set_) | (with_reducible exact Blk.new _ _ _ (by first | rfl | (simp; done) | (simp; omega))) | (with_reducible apply Blk.alloc) | ((with_reducible apply Blk.far); rotate_left; (focus (first | (simp; done) | (simp; omega) | omega))) | ((with_reducible apply Blk.grew); rotate_left; (with_reducible assumption)) | ((with_reducible apply Blk.turned); rotate_left; (with_reducible assumption); (focus (first | (simp; done) | (simp; omega) | omega))) | fail)); (· rfl)), by (apply Blk.conv; (· (repeat' first | (with_reducible assumption) | (with_reducible apply Blk.setRow) | ((with_reducible apply Blk.farRow); rotate_left; (focus (first | (simp; done) | (simp; omega) | omega))) | (with_reducible apply Blk.drew) | (with_reducible apply Blk.drewN) | (with_reducible apply Blk.set_) | (with_reducible exact Blk.new _ _ _ (by first | rfl | (simp; done) | (simp; omega))) | (with_reducible apply Blk.alloc) | ((with_reducible apply Blk.far); rotate_left; (focus (first | (simp; done) | (simp; omega) | omega))) | ((with_reducible apply Blk.grew); rotate_left; (with_reducible assumption)) | ((with_reducible apply Blk.turned); rotate_left; (with_reducible assumption); (focus (first | (simp; done) | (simp; omega) | omega))) | fail)); (· rfl)), by (apply Blk.conv; (· (repeat' first | (with_reducible assumption) | (with_reducible apply Blk.setRow) | ((with_reducible apply Blk.farRow); rotate_left; (focus (first | (simp; done) | (simp; omega) | omega))) | (with_reducible apply Blk.drew) | (with_reducible apply Blk.drewN) | (with_reducible apply Blk.set_) | (with_reducible exact Blk.new _ _ _ (by first | rfl | (simp; done) | (simp; omega))) | (with_reducible apply Blk.alloc) | ((with_reducible apply Blk.far); rotate_left; (focus (first | (simp; done) | (simp; omega) | omega))) | ((with_reducible apply Blk.grew); rotate_left; (with_reducible assumption)) | ((with_reducible apply Blk.turned); rotate_left; (with_reducible assumption); (focus (first | (simp; done) | (simp; omega) | omega))) | fail)); (· rw [boolArr_set]; exact boolArr_congr fun i _ => mix_step k i t1 (fun i => tbS (t0, t1, t2, t3) (memS l1 i) (memS l2 i)) (by show tbS _ (memS l1 k) (memS l2 k) = _; rw [HX.out, HY.out]; rfl))), by (repeat' first | (with_reducible exact Grew.refl _) | (with_reducible assumption) | (with_reducible refine Grew.alloc ?_ _) | (with_reducible refine Grew.drew ?_) | (with_reducible refine Grew.drewN ?_ _) | (with_reducible refine Grew.setRow ?_ (by first | (simp; done) | (simp; omega) | omega) _) | (with_reducible refine Grew.setCell ?_ (by first | (simp; done) | (simp; omega) | omega) _) | ((with_reducible apply Grew.trans); rotate_left; (with_reducible assumption)) | ((with_reducible apply Grew.turn); rotate_left; (with_reducible assumption); (focus (intro i hi; first | omega | (simp at hi; omega)))) | fail)⟩
      · rw [hX] at cx
        rw [hY] at cy
        have HX := Lib.hid hX
        have HY := Lib.hid hY
        clear hX hY
        go_wp2_with fail
        go_region_held3 (fun w' => w'.cell? ⟨w2.heap.size, k, none⟩ = some (.bool true) ∧ w'.cell? ⟨w2.heap.size + 1, k, none⟩ = some (.bool false) ∧ w'.cell? ⟨w.heap.size, 0, none⟩ = some (.bool t0) ∧ w'.cell? ⟨w.heap.size, 1, none⟩ = some (.bool t1) ∧ w'.cell? ⟨w.heap.size, 2, none⟩ = some (.bool t2) ∧ w'.cell? ⟨w.heap.size, 3, none⟩ = some (.bool t3)) (go_keep) (first | (go_at_call 126; refine (bit_any _ _).mono ?_; rintro e w' ⟨rfl, rfl⟩))
        go_wp2_with fail
        go_roundg (128 - (k + 1))
        case measure => rw [HGK.out]; omega
        case rel => exact ⟨k + 1, by omega, by omega, by go_num, by (apply Blk.conv; (· (repeat' first | (with_reducible assumption) | (with_reducible apply Blk.setRow) | ((with_reducible apply Blk.farRow); rotate_left; (focus (first | (simp; done) | (simp; omega) | omega))) | (with_reducible apply Blk.drew) | (with_reducible apply Blk.drewN) | (with_reducible apply Blk.set_) | (with_reducible exact Blk.new _ _ _ (by first | rfl | (simp; done) | (simp; omega))) | (with_reducible apply Blk.alloc) | ((with_reducible apply Blk.far); rotate_left; (focus (first | (simp; done) | (simp; omega) | omega))) | ((with_reducible apply Blk.grew); rotate_left; (with_reducible assumption)) | ((with_reducible apply Blk.turned); rotate_left; (with_reducible assumption); (focus (first | (simp; done) | (simp; omega) | omega))) | fail)); (· rfl)), by (apply Blk.conv; (· (repeat' first | (with_reducible assumption) | (with_reducible apply Blk.setRow) | ((with_reducible apply Blk.farRow); rotate_left; (focus (first | (simp; done) | (simp; omega) | omega))) | (with_reducible apply Blk.drew) | (with_reducible apply Blk.drewN) | (with_reducible apply Blk.set_) | (with_reducible exact Blk.new _ _ _ (by first | rfl | (simp; done) | (simp; omega))) | (with_reducible apply Blk.alloc) | ((with_reducible apply Blk.far); rotate_left; (focus (first | (simp; done) | (simp; omega) | omega))) | ((with_reducible apply Blk.grew); rotate_left; (with_reducible assumption)) | ((with_reducible apply Blk.turned); rotate_left; (with_reducible assumption); (focus (first | (simp; done) | (simp; omega) | omega))) | fail)); (· rfl)), by (apply Blk.conv; (· (repeat' first | (with_reducible assumption) | (with_reducible apply Blk.setRow) | ((with_reducible apply Blk.farRow); rotate_left; (focus (first | (simp; done) | (simp; omega) | omega))) | (with_reducible apply Blk.drew) | (with_reducible apply Blk.drewN) | (with_reducible apply Blk.set_) | (with_reducible exact Blk.new _ _ _ (by first | rfl | (simp; done) | (simp; omega))) | (with_reducible apply Blk.alloc) | ((with_reducible apply Blk.far); rotate_left; (focus (first | (simp; done) | (simp; omega) | omega))) | ((with_reducible apply Blk.grew); rotate_left; (with_reducible assumption)) | ((with_reducible apply Blk.turned); rotate_left; (with_reducible assumption); (focus (first | (simp; done) | (simp; omega) | omega))) | fail)); (· rfl)), by (apply Blk.conv; (· (repeat' first | (with_reducible assumption) | (with_reducible apply Blk.setRow) | ((with_reducible apply Blk.farRow); rotate_left; (focus (first | (simp; done) | (simp; omega) | omega))) | (with_reducible apply Blk.drew) | (with_reducible apply Blk.drewN) | (with_reducible apply Blk.set_) | (with_reducible exact Blk.new _ _ _ (by first | rfl | (simp; done) | (simp; omega))) | (with_reducible apply Blk.alloc) | ((with_reducible apply Blk.far); rotate_left; (focus (first | (simp; done) | (simp; omega) | omega))) | ((with_reducible apply Blk.grew); rotate_left; (with_reducible assumption)) | ((with_reducible apply Blk.turned); rotate_left; (with_reducible assumption); (focus (first | (simp; done) | (simp; omega) | omega))) | fail)); (· rw [boolArr_set]; exact boolArr_congr fun i _ => mix_step k i t2 (fun i => tbS (t0, t1, t2, t3) (memS l1 i) (memS l2 i)) (by show tbS _ (memS l1 k) (memS l2 k) = _; rw [HX.out, HY.out]; rfl))), by (repeat' first | (with_reducible exact Grew.refl _) | (with_reducible assumption) | (with_reducible refine Grew.alloc ?_ _) | (with_reducible refine Grew.drew ?_) | (with_reducible refine Grew.drewN ?_ _) | (with_reducible refine Grew.setRow ?_ (by first | (simp; done) | (simp; omega) | omega) _) | (with_reducible refine Grew.setCell ?_ (by first | (simp; done) | (simp; omega) | omega) _) | ((with_reducible apply Grew.trans); rotate_left; (with_reducible assumption)) | ((with_reducible apply Grew.turn); rotate_left; (with_reducible assumption); (focus (intro i hi; first | omega | (simp at hi; omega)))) | fail)⟩
      · rw [hX] at cx
        rw [hY] at cy
        have HX := Lib.hid hX
        have HY := Lib.hid hY
        clear hX hY
        go_wp2_with fail
        go_region_held3 (fun w' => w'.cell? ⟨w2.heap.size, k, none⟩ = some (.bool true) ∧ w'.cell? ⟨w2.heap.size + 1, k, none⟩ = some (.bool true) ∧ w'.cell? ⟨w.heap.size, 0, none⟩ = some (.bool t0) ∧ w'.cell? ⟨w.heap.size, 1, none⟩ = some (.bool t1) ∧ w'.cell? ⟨w.heap.size, 2, none⟩ = some (.bool t2) ∧ w'.cell? ⟨w.heap.size, 3, none⟩ = some (.bool t3)) (go_keep) (first | (go_at_call 126; refine (bit_any _ _).mono ?_; rintro e w' ⟨rfl, rfl⟩))
        go_wp2_with fail
        go_roundg (128 - (k + 1))
        case measure => rw [HGK.out]; omega
        case rel => exact ⟨k + 1, by omega, by omega, by go_num, by (apply Blk.conv; (· (repeat' first | (with_reducible assumption) | (with_reducible apply Blk.setRow) | ((with_reducible apply Blk.farRow); rotate_left; (focus (first | (simp; done) | (simp; omega) | omega))) | (with_reducible apply Blk.drew) | (with_reducible apply Blk.drewN) | (with_reducible apply Blk.set_) | (with_reducible exact Blk.new _ _ _ (by first | rfl | (simp; done) | (simp; omega))) | (with_reducible apply Blk.alloc) | ((with_reducible apply Blk.far); rotate_left; (focus (first | (simp; done) | (simp; omega) | omega))) | ((with_reducible apply Blk.grew); rotate_left; (with_reducible assumption)) | ((with_reducible apply Blk.turned); rotate_left; (with_reducible assumption); (focus (first | (simp; done) | (simp; omega) | omega))) | fail)); (· rfl)), by (apply Blk.conv; (· (repeat' first | (with_reducible assumption) | (with_reducible apply Blk.setRow) | ((with_reducible apply Blk.farRow); rotate_left; (focus (first | (simp; done) | (simp; omega) | omega))) | (with_reducible apply Blk.drew) | (with_reducible apply Blk.drewN) | (with_reducible apply Blk.set_) | (with_reducible exact Blk.new _ _ _ (by first | rfl | (simp; done) | (simp; omega))) | (with_reducible apply Blk.alloc) | ((with_reducible apply Blk.far); rotate_left; (focus (first | (simp; done) | (simp; omega) | omega))) | ((with_reducible apply Blk.grew); rotate_left; (with_reducible assumption)) | ((with_reducible apply Blk.turned); rotate_left; (with_reducible assumption); (focus (first | (simp; done) | (simp; omega) | omega))) | fail)); (· rfl)), by (apply Blk.conv; (· (repeat' first | (with_reducible assumption) | (with_reducible apply Blk.setRow) | ((with_reducible apply Blk.farRow); rotate_left; (focus (first | (simp; done) | (simp; omega) | omega))) | (with_reducible apply Blk.drew) | (with_reducible apply Blk.drewN) | (with_reducible apply Blk.set_) | (with_reducible exact Blk.new _ _ _ (by first | rfl | (simp; done) | (simp; omega))) | (with_reducible apply Blk.alloc) | ((with_reducible apply Blk.far); rotate_left; (focus (first | (simp; done) | (simp; omega) | omega))) | ((with_reducible apply Blk.grew); rotate_left; (with_reducible assumption)) | ((with_reducible apply Blk.turned); rotate_left; (with_reducible assumption); (focus (first | (simp; done) | (simp; omega) | omega))) | fail)); (· rfl)), by (apply Blk.conv; (· (repeat' first | (with_reducible assumption) | (with_reducible apply Blk.setRow) | ((with_reducible apply Blk.farRow); rotate_left; (focus (first | (simp; done) | (simp; omega) | omega))) | (with_reducible apply Blk.drew) | (with_reducible apply Blk.drewN) | (with_reducible apply Blk.set_) | (with_reducible exact Blk.new _ _ _ (by first | rfl | (simp; done) | (simp; omega))) | (with_reducible apply Blk.alloc) | ((with_reducible apply Blk.far); rotate_left; (focus (first | (simp; done) | (simp; omega) | omega))) | ((with_reducible apply Blk.grew); rotate_left; (with_reducible assumption)) | ((with_reducible apply Blk.turned); rotate_left; (with_reducible assumption); (focus (first | (simp; done) | (simp; omega) | omega))) | fail)); (· rw [boolArr_set]; exact boolArr_congr fun i _ => mix_step k i t3 (fun i => tbS (t0, t1, t2, t3) (memS l1 i) (memS l2 i)) (by show tbS _ (memS l1 k) (memS l2 k) = _; rw [HX.out, HY.out]; rfl))), by (repeat' first | (with_reducible exact Grew.refl _) | (with_reducible assumption) | (with_reducible refine Grew.alloc ?_ _) | (with_reducible refine Grew.drew ?_) | (with_reducible refine Grew.drewN ?_ _) | (with_reducible refine Grew.setRow ?_ (by first | (simp; done) | (simp; omega) | omega) _) | (with_reducible refine Grew.setCell ?_ (by first | (simp; done) | (simp; omega) | omega) _) | ((with_reducible apply Grew.trans); rotate_left; (with_reducible assumption)) | ((with_reducible apply Grew.turn); rotate_left; (with_reducible assumption); (focus (intro i hi; first | omega | (simp at hi; omega)))) | fail)⟩
    · obtain rfl : k = 128 := by omega
      have hbs' : Blk wr (w2.heap.size + 1 + 1) 92 (boolArr fun i => tbS (t0, t1, t2, t3) (memS l1 i) (memS l2 i)) := by (apply Blk.conv; (· (repeat' first | (with_reducible assumption) | (with_reducible apply Blk.setRow) | ((with_reducible apply Blk.farRow); rotate_left; (focus (first | (simp; done) | (simp; omega) | omega))) | (with_reducible apply Blk.drew) | (with_reducible apply Blk.drewN) | (with_reducible apply Blk.set_) | (with_reducible exact Blk.new _ _ _ (by first | rfl | (simp; done) | (simp; omega))) | (with_reducible apply Blk.alloc) | ((with_reducible apply Blk.far); rotate_left; (focus (first | (simp; done) | (simp; omega) | omega))) | ((with_reducible apply Blk.grew); rotate_left; (with_reducible assumption)) | ((with_reducible apply Blk.turned); rotate_left; (with_reducible assumption); (focus (first | (simp; done) | (simp; omega) | omega))) | fail)); (· exact boolArr_congr fun i hi => if_pos hi))
      go_wp2_with fail
      refine (runs_any (w2.heap.size + 1 + 1) _ wr hbs').mono ?_
      rintro e w3 ⟨v, rfl, hown, g3⟩
      go_wp2_with fail
      go_ret
      exact ⟨v, rfl, hown.mono hg.size, by (repeat' first | (with_reducible exact Grew.refl _) | (with_reducible assumption) | (with_reducible refine Grew.alloc ?_ _) | (with_reducible refine Grew.drew ?_) | (with_reducible refine Grew.drewN ?_ _) | (with_reducible refine Grew.setRow ?_ (by first | (simp; done) | (simp; omega) | omega) _) | (with_reducible refine Grew.setCell ?_ (by first | (simp; done) | (simp; omega) | omega) _) | ((with_reducible apply Grew.trans); rotate_left; (with_reducible assumption)) | ((with_reducible apply Grew.turn); rotate_left; (with_reducible assumption); (focus (intro i hi; first | omega | (simp at hi; omega)))) | fail)⟩
set_option maxRecDepth 100000 in
set_option maxHeartbeats 4000000 in
theorem minus_any (A1 A2 : Option Addr) (c1 c2 : Nat) (l1 l2 : List (Int × Int)) (w : World) (B : Nat) (hB : B ≤ w.heap.size) (hl1 : l1.length ≤ 1000000) (hl2 : l2.length ≤ 1000000) (hr1 : RunsAt w B A1 l1) (hr2 : RunsAt w B A2 l2) :
    Calls Try.prog 92 #[.slice A1 l1.length c1, .slice A2 l2.length c2] w fun e w' => ∃ v, e = .returned v ∧ OwnL w' w.heap.size 58 2 v ((normS fun i => memS l1 i && !memS l2 i).map rowN) ∧ Grew w w' := by
  have hC := mix_any A1 A2 c1 c2 l1 l2 (false, false, true, false) w B hB hl1 hl2 hr1 hr2
  have hf : (fun i => tbS (false, false, true, false) (memS l1 i) (memS l2 i)) = fun i => memS l1 i && !memS l2 i := by
    funext i
    cases memS l1 i <;> cases memS l2 i <;> rfl
  rw [hf] at hC
  have HC := Lib.hid hC
  clear hC
  go_enter Try.func92, Try.ntmps92
  go_wp2_with fail
  refine HC.out.mono ?_
  rintro e w1 ⟨v, rfl, hown, g1⟩
  go_wp2_with fail
  go_ret
  exact ⟨v, rfl, hown, g1⟩
end Go.Proofs.Ytnlaogneceanoaa
namespace Go.Proofs.Ytnlaogneceanoaa
set_option linter.unusedVariables false
set_option linter.unusedSimpArgs false
set_option linter.unusedSectionVars false
open Go.RowKit
def inT (l : List (Int × Int)) (t : Int) : Bool := l.any fun r => decide (((clipS r).1 : Int) ≤ t ∧ t < ((clipS r).1 : Int) + (clipS r).2)
theorem inT_nat (l : List (Int × Int)) (i : Nat) : inT l i = memS l i := by
  unfold inT memS
  congr 1
  funext r
  unfold inS
  rw [decide_eq_decide]
  omega
theorem idxS_snd (t : Int) (l : List (Int × Int)) : ∀ n, (idxS t l n).2 = inT l t := by
  induction l with
  | nil => intro n; rfl
  | cons r l ih =>
    intro n
    rw [idxS]
    unfold inT
    rw [List.any_cons]
    split
    · rename_i h; simp [h]
    · rename_i h; rw [ih]; simp [h, inT]
section
variable (A : Option Addr) (c : Nat) (l : List (Int × Int)) (w : World) (B : Nat) (hB : B ≤ w.heap.size) (hl : l.length ≤ 1000000) (hr : RunsAt w B A l)
include hB hl hr
set_option maxRecDepth 100000 in
set_option maxHeartbeats 4000000 in
theorem disjoint_any : Calls Try.prog 11 #[.slice A l.length c] w fun e w' => e = .returned (.bool ((sizeS l : Int) == (sizeS (ints (normS (memS l))) : Int))) ∧ Grew w w' := by
  go_enter Try.func11, Try.ntmps11
  go_wp2_with fail
  refine (size_any A c l w B hB hl hr).mono ?_
  rintro e w1 ⟨rfl, g1⟩
  go_wp2_with fail
  refine (normal_any A c l w1 B (Nat.le_trans hB g1.size) hl (hr.keep hB g1)).mono ?_
  rintro e w2 ⟨v, rfl, hown, g2⟩
  obtain ⟨A', c', hv, hr'⟩ := own_runs hown (fun r hr => Nat.le_trans (normTo_bd _ _ r hr) (by omega))
  subst hv
  have hle : (normS (memS l)).length ≤ 128 := normTo_len _ _
  go_wp2_with fail
  refine (size_any A' c' _ w2 w2.heap.size (Nat.le_refl _) (by rw [ints_len]; omega) hr').mono ?_
  rintro e w3 ⟨rfl, g3⟩
  go_wp2_with fail
  go_ret
  exact ⟨rfl, g1.trans (g2.trans g3)⟩
end
end Go.Proofs.Ytnlaogneceanoaa
namespace Go.Proofs.Ytnlaogneceanoaa
set_option linter.unusedVariables false
set_option linter.unusedSimpArgs false
set_option linter.unusedSectionVars false
open Go.RowKit
theorem normTo_congr {S T : Nat → Bool} : ∀ k, (∀ i, i < k → S i = T i) → normTo S k = normTo T k := by
  intro k
  induction k with
  | zero => intro _; rfl
  | succ k ih =>
    intro h
    rw [normTo, normTo, ih (fun i hi => h i (by omega)), stepN, stepN, h k (by omega)]
    by_cases hk : 0 < k
    · rw [h (k - 1) (by omega)]
    · have e1 : ¬ (0 < k ∧ S (k - 1) = true) := fun h => hk h.1
      have e2 : ¬ (0 < k ∧ T (k - 1) = true) := fun h => hk h.1
      rw [if_neg e1, if_neg e2]
end Go.Proofs.Ytnlaogneceanoaa
