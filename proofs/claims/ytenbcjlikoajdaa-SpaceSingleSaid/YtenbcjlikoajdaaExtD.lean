/- runs: the normal form of a set. -/
import Derived.Test.YtenbcjlikoajdaaExtC
import Derived.Test.YtenbcjlikoajdaaOwn
namespace Go.Proofs.Ytenbcjlikoajdaa
set_option linter.unusedVariables false
set_option linter.unusedSimpArgs false
set_option linter.unusedSectionVars false
open Go.RowKit
/-- The last run, one track longer. -/
def bump (l : List (Nat × Nat)) : List (Nat × Nat) := l.set (l.length - 1) ((l.getD (l.length - 1) (0, 0)).1, (l.getD (l.length - 1) (0, 0)).2 + 1)
theorem getD_at (l : List (Nat × Nat)) (j : Nat) (h : j < l.length) : l.getD j (0, 0) = l[j] := by simp [List.getD, h]
def stepN (S : Nat → Bool) (l : List (Nat × Nat)) (i : Nat) : List (Nat × Nat) := if S i = false then l else if 0 < i ∧ S (i - 1) = true then bump l else l ++ [(i, 1)]
def normTo (S : Nat → Bool) : Nat → List (Nat × Nat)
  | 0 => []
  | k + 1 => stepN S (normTo S k) k
/-- The normal form of a set of tracks. -/
def normS (S : Nat → Bool) : List (Nat × Nat) := normTo S 128
theorem bump_len (l : List (Nat × Nat)) : (bump l).length = l.length := by simp [bump]
theorem stepN_len (S : Nat → Bool) (l : List (Nat × Nat)) (i : Nat) : (stepN S l i).length ≤ l.length + 1 := by
  unfold stepN; repeat' split
  · omega
  · rw [bump_len]; omega
  · simp
theorem normTo_len (S : Nat → Bool) (k : Nat) : (normTo S k).length ≤ k := by
  induction k with
  | zero => simp [normTo]
  | succ k ih => have := stepN_len S (normTo S k) k; rw [normTo]; omega
theorem normTo_pos (S : Nat → Bool) (k : Nat) (hk : 0 < k) (h : S (k - 1) = true) : 0 < (normTo S k).length := by
  obtain ⟨j, rfl⟩ : ∃ j, k = j + 1 := ⟨k - 1, by omega⟩
  have h' : S j = true := h
  rw [normTo, stepN, if_neg (by simp [h'])]
  split
  · rename_i h2
    have := normTo_pos S j h2.1 h2.2
    rw [bump_len]; exact this
  · simp
theorem bump_bd (l : List (Nat × Nat)) (k : Nat) (h : ∀ r ∈ l, r.1 + r.2 ≤ k) : ∀ r ∈ bump l, r.1 + r.2 ≤ k + 1 := by
  intro r hr
  rcases List.mem_or_eq_of_mem_set hr with hr | rfl
  · have := h r hr; omega
  · simp only []
    by_cases hl : l.length - 1 < l.length
    · have := h (l.getD (l.length - 1) (0, 0)) (by rw [getD_at l _ hl]; exact List.getElem_mem hl)
      omega
    · have : l = [] := List.length_eq_zero_iff.1 (by omega)
      subst this; simp
theorem normTo_bd (S : Nat → Bool) (k : Nat) : ∀ r ∈ normTo S k, r.1 + r.2 ≤ k := by
  induction k with
  | zero => intro r hr; simp [normTo] at hr
  | succ k ih =>
    intro r hr
    rw [normTo, stepN] at hr
    split at hr
    · have := ih r hr; omega
    · split at hr
      · exact bump_bd _ k ih r hr
      · rcases List.mem_append.1 hr with hr | hr
        · have := ih r hr; omega
        · rw [List.mem_singleton.1 hr]; simp
def rowN (r : Nat × Nat) : List Value := [.int .i64 (r.1 : Int), .int .i64 (r.2 : Int)]
theorem info_run : (Try.prog.info? 25).map (fun i => (i.zero, i.size, i.bytes)) = some (some (.agg #[.int .i64 0, .int .i64 0]), 2, 16) := by kernel_rfl
theorem rows_set (l : List (Nat × Nat)) (j : Nat) (a b b' : Nat) (h : l[j]? = some (a, b)) : (l.map rowN).set j ((rowN (a, b)).set 1 (.int .i64 (b' : Int))) = (l.set j (a, b')).map rowN := by
  rw [List.map_set]; rfl
set_option maxRecDepth 100000 in
set_option maxHeartbeats 4000000 in
theorem runs_any (g : Nat) (S : Nat → Bool) (w : World) (hs : Blk w g 64 (boolArr S)) :
    Calls Try.prog 53 #[.pointer (some ⟨g, 0, none⟩)] w fun e w' => ∃ v, e = .returned v ∧ OwnL w' w.heap.size 25 2 v ((normS S).map rowN) ∧ Grew w w' := by
  have hgl := hs.lt
  go_enter Try.func53, Try.ntmps53
  go_wp2_with fail
  go_loopg [3, 7] 128 (fun gk v i wr => ∃ k : Nat, k ≤ 128 ∧ gk = 128 - k ∧ i = .int .i64 k ∧ OwnL wr w.heap.size 25 2 v ((normTo S k).map rowN) ∧ Grew w wr)
  case atStart => exact ⟨0, by omega, by omega, rfl, OwnL.nil _ _ _ _, by (repeat' first | (with_reducible exact Grew.refl _) | (with_reducible assumption) | (with_reducible refine Grew.alloc ?_ _) | (with_reducible refine Grew.drew ?_) | (with_reducible refine Grew.drewN ?_ _) | (with_reducible refine Grew.setRow ?_ (by first | (simp; done) | (simp; omega) | omega) _) | (with_reducible refine Grew.setCell ?_ (by first | (simp; done) | (simp; omega) | omega) _) | ((with_reducible apply Grew.trans); rotate_left; (with_reducible assumption)) | ((with_reducible apply Grew.turn); rotate_left; (with_reducible assumption); (focus (intro i hi; first | omega | (simp at hi; omega)))) | fail)⟩
  case round =>
    obtain ⟨k, hk, hgk, rfl, hown, hg⟩ := hrel
    have HGK := Lib.hid hgk
    clear hgk
    have hs' := hs.grew hg
    by_cases hlt : k < 128
    · have c0 := hs'.cell k
      rw [boolArr_get _ _ hlt] at c0
      have hstep : normTo S (k + 1) = stepN S (normTo S k) k := rfl
      have hlen := normTo_len S k
      have hbd := normTo_bd S k
      by_cases hS : S k = true
      · rw [stepN, if_neg (by simp [hS])] at hstep
        rw [hS] at c0
        by_cases hp : 0 < k ∧ S (k - 1) = true
        · rw [if_pos hp] at hstep
          have c1 := hs'.cell (k - 1)
          rw [boolArr_get _ _ (by omega), hp.2] at c1
          have hpos := normTo_pos S k hp.1 hp.2
          have HS := Lib.hid hstep
          have HB := Lib.hid hbd
          have hk0 := hp.1
          clear hstep hbd hS hp
          rcases hown.form with ⟨_, h0⟩ | ⟨gv, cap, hv, hbg, hgv, hc1, hc2⟩
          · exfalso; have := congrArg List.length h0; simp at this; simp [this] at hpos
          · subst hv
            have hlast : (normTo S k)[(normTo S k).length - 1]? = some ((normTo S k).getD ((normTo S k).length - 1) (0, 0)) := by
              rw [getD_at _ _ (by omega)]; exact List.getElem?_eq_getElem (by omega)
            have hin := HB.out _ (List.mem_of_getElem? hlast)
            generalize hld : (normTo S k).getD ((normTo S k).length - 1) (0, 0) = ld at *
            obtain ⟨la, lb⟩ := ld
            have hrow : ((normTo S k).map rowN)[(normTo S k).length - 1]? = some (rowN (la, lb)) := by rw [List.getElem?_map, hlast]; rfl
            have d1 := hown.cell (i := 1) hrow rfl
            have d0 := hown.frozen (((normTo S k).length - 1) * 2 + 1)
            rw [List.length_map] at *
            have hne : gv ≠ g := by intro e; exact absurd (hown.ne_blk hs' (by decide)) (by simp [Value.ownBlock, e])
            have hsetown := hown.set_ (i := 1) (o := ((normTo S k).length - 1) * 2 + 1) hrow (by omega) rfl (.int .i64 ((lb + 1 : Nat) : Int))
            rw [rows_set _ _ la lb (lb + 1) hlast] at hsetown
            
            have HL := Lib.hid hld
            have HLL := Lib.hid hlast
            have HR := Lib.hid hrow
            simp only at hin
            have HN := Lib.hid hsetown
            clear hsetown hld hlast hrow
            generalize hq : (normTo S k).length = q at *
            have hq1 : ((q : Int) - 1) = ((q - 1 : Nat) : Int) := by omega
            go_wp2_with fail
            go_region
            go_wp2_with fail
            go_roundg (128 - (k + 1))
            case measure => rw [HGK.out]; omega
            case rel => exact ⟨k + 1, by omega, by omega, by go_num, by rw [HS.out, bump, hq, HL.out]; exact HN.out.drew, by (repeat' first | (with_reducible exact Grew.refl _) | (with_reducible assumption) | (with_reducible refine Grew.alloc ?_ _) | (with_reducible refine Grew.drew ?_) | (with_reducible refine Grew.drewN ?_ _) | (with_reducible refine Grew.setRow ?_ (by first | (simp; done) | (simp; omega) | omega) _) | (with_reducible refine Grew.setCell ?_ (by first | (simp; done) | (simp; omega) | omega) _) | ((with_reducible apply Grew.trans); rotate_left; (with_reducible assumption)) | ((with_reducible apply Grew.turn); rotate_left; (with_reducible assumption); (focus (intro i hi; first | omega | (simp at hi; omega)))) | fail)⟩
        · rw [if_neg hp] at hstep
          have HS := Lib.hid hstep
          have HB := Lib.hid hbd
          have hp' : k = 0 ∨ S (k - 1) = false := by
            by_cases h : k = 0
            · exact .inl h
            · right; cases h2 : S (k - 1) with
              | false => rfl
              | true => exact absurd ⟨by omega, h2⟩ hp
          clear hstep hbd hS hp
          have hx : ∃ d : Value, 0 < k → wr.cell? ⟨g, k - 1, none⟩ = some (.bool false) := ⟨.bool false, fun h => by
            have c1 := hs'.cell (k - 1)
            rw [boolArr_get _ _ (by omega)] at c1
            rcases hp' with h' | h'
            · omega
            · rw [h'] at c1; exact c1⟩
          obtain ⟨_, hx⟩ := hx
          by_cases hk0 : k = 0
          · subst hk0
            clear hp' hx
            go_wp2_with fail
            go_region
            go_wp2_with (at_builtin; refine wpList_push rfl _ _ 22 rfl w.heap.size 25 2 16 _ Try.underlying22 info_run rfl (by decide) wr.drew _ ((normTo S 0).map rowN) (rowN (0, 1)) (by rfl) rfl rfl hown.drew (by first | rfl | (simp; done)) rfl rfl (by rw [List.length_map]; omega) (by rw [List.length_map]; omega) hg.size ?_; intro v' w1 hown1 hgr hbk hsz)
            go_roundg (128 - (0 + 1))
            case measure => rw [HGK.out]; omega
            case rel => exact ⟨0 + 1, by omega, by omega, by go_num, by rw [HS.out, List.map_append]; exact hown1, hgr _ hg.drew (Nat.le_refl _)⟩
          · have hx' := hx (by omega)
            clear hp' hx
            go_wp2_with fail
            go_region
            go_wp2_with (at_builtin; refine wpList_push rfl _ _ 22 rfl w.heap.size 25 2 16 _ Try.underlying22 info_run rfl (by decide) wr.drew _ ((normTo S k).map rowN) (rowN (k, 1)) (by rfl) rfl rfl hown.drew (by first | rfl | (simp; done)) rfl rfl (by rw [List.length_map]; omega) (by rw [List.length_map]; omega) hg.size ?_; intro v' w1 hown1 hgr hbk hsz)
            go_roundg (128 - (k + 1))
            case measure => rw [HGK.out]; omega
            case rel => exact ⟨k + 1, by omega, by omega, by go_num, by rw [HS.out, List.map_append]; exact hown1, hgr _ hg.drew (Nat.le_refl _)⟩
      · have hS' : S k = false := by simpa using hS
        rw [stepN, if_pos hS'] at hstep
        rw [hS'] at c0
        have HS := Lib.hid hstep
        have HB := Lib.hid hbd
        clear hstep hbd hS hS'
        go_wp2_with fail
        go_region
        go_wp2_with fail
        go_roundg (128 - (k + 1))
        case measure => rw [HGK.out]; omega
        case rel => exact ⟨k + 1, by omega, by omega, by go_num, by rw [HS.out]; exact hown.drew, by (repeat' first | (with_reducible exact Grew.refl _) | (with_reducible assumption) | (with_reducible refine Grew.alloc ?_ _) | (with_reducible refine Grew.drew ?_) | (with_reducible refine Grew.drewN ?_ _) | (with_reducible refine Grew.setRow ?_ (by first | (simp; done) | (simp; omega) | omega) _) | (with_reducible refine Grew.setCell ?_ (by first | (simp; done) | (simp; omega) | omega) _) | ((with_reducible apply Grew.trans); rotate_left; (with_reducible assumption)) | ((with_reducible apply Grew.turn); rotate_left; (with_reducible assumption); (focus (intro i hi; first | omega | (simp at hi; omega)))) | fail)⟩
    · obtain rfl : k = 128 := by omega
      go_wp2_with fail
      go_ret
      exact ⟨_, rfl, hown, hg⟩
end Go.Proofs.Ytenbcjlikoajdaa
