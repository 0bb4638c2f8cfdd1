/- New, Len, Hits, Places; use. -/
import Derived.Test.YtfmhiocigoejjaaBufD
import Derived.Test.YtfmhiocigoejjaaApp
namespace Go.Proofs.Ytfmhiocigoejjaa
set_option linter.unusedVariables false
set_option linter.unusedSimpArgs false
set_option linter.unusedSectionVars false
open Go.RowKit
open Go.Maps (Keyed)
attribute [local go_sem ↓] Go.wp_at_zero Go.wp_at_succ
theorem ret_ptr {a b : Value} {c d : Int} (h : a = b) (h' : c = d) : Ending.returned (.tuple #[a, .int .i64 c]) = .returned (.tuple #[b, .int .i64 d]) := by rw [h, h']
theorem info_place : (Try.prog.info? 40).map (fun i => (i.zero, i.size, i.bytes)) = some (some (.agg #[.int .i64 0, .int .i64 0]), 2, 16) := by kernel_rfl
set_option maxRecDepth 100000 in
set_option maxHeartbeats 2000000 in
theorem new_no (c : Int) (w : World) (h : c < 1 ∨ 4096 < c) : Calls Try.prog 11 #[.int .i64 c] w fun e w' => e = .returned (.tuple #[.pointer none, .int .i64 1]) ∧ w = w' := by
  rcases h with h | h
  · go_enter Try.func11, Try.ntmps11
    go_wp2
    go_ret2
    exact ⟨rfl, rfl⟩
  · have h1 : 1 ≤ c := by omega
    go_enter Try.func11, Try.ntmps11
    go_wp2
    go_ret2
    exact ⟨rfl, rfl⟩
theorem FOf_nil (p : Place) : FOf [] p = none := rfl
set_option maxRecDepth 100000 in
set_option maxHeartbeats 2000000 in
theorem new_any (c : Int) (w : World) (h1 : 1 ≤ c) (h2 : c ≤ 4096) : Calls Try.prog 11 #[.int .i64 c] w fun e w' => ∃ x m, e = .returned (.tuple #[.pointer (some ⟨x, 0, none⟩), .int .i64 0]) ∧ PoolM w' w.heap.size x m (.slice none 0 0) c [] 0 0 ∧ Grew w w' := by
  have hmm := @run_makeMap Try.prog
  go_enter Try.func11, Try.ntmps11
  go_wp2
  go_ret2
  refine ⟨_, _, rfl, ⟨by (apply Blk.conv; (· (repeat' first | (with_reducible assumption) | (with_reducible apply Blk.setRow) | ((with_reducible apply Blk.farRow); rotate_left; (focus (first | (simp; done) | (simp; omega) | omega))) | (with_reducible apply Blk.drew) | (with_reducible apply Blk.drewN) | (with_reducible apply Blk.set_) | (with_reducible exact Blk.new _ _ _ (by first | rfl | (simp; done) | (simp; omega))) | (with_reducible apply Blk.alloc) | ((with_reducible apply Blk.far); rotate_left; (focus (first | (simp; done) | (simp; omega) | omega))) | ((with_reducible apply Blk.grew); rotate_left; (with_reducible assumption)) | ((with_reducible apply Blk.turned); rotate_left; (with_reducible assumption); (focus (first | (simp; done) | (simp; omega) | omega))) | fail)); (· rfl)), (((MapIs.made w rfl).congr (fun p => (FOf_nil p).symm)).alloc _), OwnL.nil _ _ _ _, by simp, by simp, by simp [keys], by simp [keys]⟩, by (repeat' first | (with_reducible exact Grew.refl _) | (with_reducible assumption) | (with_reducible refine Grew.alloc ?_ _) | (with_reducible refine Grew.drew ?_) | (with_reducible refine Grew.drewN ?_ _) | (with_reducible refine Grew.setRow ?_ (by first | (simp; done) | (simp; omega) | omega) _) | (with_reducible refine Grew.setCell ?_ (by first | (simp; done) | (simp; omega) | omega) _) | ((with_reducible apply Grew.trans); rotate_left; (with_reducible assumption)) | ((with_reducible apply Grew.turn); rotate_left; (with_reducible assumption); (focus (intro i hi; first | omega | (simp at hi; omega)))) | fail)⟩
section
variable {x m base : Nat} {v : Value} {cap h ms : Int} {L : List Pg} {w : World} (hp : PoolM w base x m v cap L h ms)
include hp
set_option maxRecDepth 100000 in
set_option maxHeartbeats 2000000 in
theorem len_any : Calls Try.prog 12 #[.pointer (some ⟨x, 0, none⟩)] w fun e w' => e = .returned (.int .i64 (L.length : Int)) ∧ w = w' := by
  have hxl := hp.blk.lt
  have x0 := hp.blk.cell 0
  have x2 := hp.blk.cell 2
  rcases hp.own.form with ⟨hv, h0⟩ | ⟨g, gc, hv, hbg, hgl, hgc, hgcm⟩
  · have hL : L.length = 0 := by
      have := congrArg List.length h0
      rw [placeC_len, keys_len] at this
      exact this
    subst hv
    have HL := Lib.hid hL
    clear hL h0 hp
    go_enter Try.func12, Try.ntmps12
    go_wp2
    go_ret
    exact ⟨ret_int (by rw [HL.out]; rfl), rfl⟩
  · rw [placeC_len, keys_len] at hv hgc
    subst hv
    clear hp
    go_enter Try.func12, Try.ntmps12
    go_wp2
    go_ret
    exact ⟨rfl, rfl⟩
set_option maxRecDepth 100000 in
set_option maxHeartbeats 2000000 in
theorem hits_any : Calls Try.prog 14 #[.pointer (some ⟨x, 0, none⟩)] w fun e w' => e = .returned (.tuple #[.int .i64 h, .int .i64 ms]) ∧ ∃ n, w' = w.drewN n := by
  have hxl := hp.blk.lt
  have x0 := hp.blk.cell 0
  have x3 := hp.blk.cell 3
  have x4 := hp.blk.cell 4
  clear hp
  go_enter Try.func14, Try.ntmps14
  go_wp2_with fail
  go_quiet (fail)
  go_wp2_with fail
  go_ret2
  exact ⟨rfl, _, rfl⟩
end
set_option maxRecDepth 100000 in
set_option maxHeartbeats 2000000 in
theorem clone_any (A : Option Addr) (c n : Nat) (l : List Place) (w : World) (hn : n = l.length) (hl : l.length ≤ 100000) (hr : ListAt w w.heap.size 2 A (l.map placeC)) :
    Calls Try.prog 24 #[.slice A n c] w fun e w' => ∃ v, e = .returned v ∧ OwnL w' w.heap.size 40 2 v (l.map placeC) ∧ Grew w w' := by
  subst hn
  cases A with
  | none =>
    have h0 : l = [] := by
      rcases Nat.eq_zero_or_pos l.length with h0 | h0
      · exact List.length_eq_zero_iff.1 h0
      · obtain ⟨b, off, e, _⟩ := hr (by rw [List.length_map]; exact h0)
        cases e
    subst h0
    have hnil := fun (W : World) => Lib.run_eql_slice_nil (P := Try.prog) W 28 40 none 0 c 0 0 Try.underlying28
    go_enter Try.func24, Try.ntmps24
    go_wp2
    go_ret
    exact ⟨_, rfl, OwnL.nil _ _ _ _, by (repeat' first | (with_reducible exact Grew.refl _) | (with_reducible assumption) | (with_reducible refine Grew.alloc ?_ _) | (with_reducible refine Grew.drew ?_) | (with_reducible refine Grew.drewN ?_ _) | (with_reducible refine Grew.setRow ?_ (by first | (simp; done) | (simp; omega) | omega) _) | (with_reducible refine Grew.setCell ?_ (by first | (simp; done) | (simp; omega) | omega) _) | ((with_reducible apply Grew.trans); rotate_left; (with_reducible assumption)) | ((with_reducible apply Grew.turn); rotate_left; (with_reducible assumption); (focus (intro i hi; first | omega | (simp at hi; omega)))) | fail)⟩
  | some ad =>
    have hnil := fun (W : World) => Lib.run_eql_slice_nil (P := Try.prog) W 28 40 (some ad) l.length c 0 0 Try.underlying28
    have hra := ListAt.mono (B' := w.heap.size + 1) (hr.keep (Nat.le_refl _) ((Grew.refl w).alloc (.cells #[] 40))) (by omega)
    go_enter Try.func24, Try.ntmps24
    go_wp2_with (at_builtin; refine wpList_pushAll (by rfl) _ _ 28 rfl w.heap.size 40 2 16 _ Try.underlying28 info_place rfl (by decide) _ [] (l.map placeC) (by rfl) (OwnL.empty w _ _ _ (Nat.le_refl _) rfl) _ l.length _ (by rfl) (by simp) (by intro r hr; obtain ⟨x, _, rfl⟩ := List.mem_map.1 hr; rfl) (by simpa using hra) (by intro r hr; obtain ⟨x, _, rfl⟩ := List.mem_map.1 hr; rfl) (by simp; omega) (by simp; omega) (by simp) ?_; intro v1 w3 hown1 hgr1 hat1)
    go_ret
    exact ⟨v1, rfl, hown1, Grew.own ((Grew.refl w).alloc _) hgr1 (by simp [Value.ownBlock]) (Nat.le_refl _)⟩
set_option maxRecDepth 100000 in
set_option maxHeartbeats 2000000 in
theorem places_any {x m base : Nat} {v : Value} {cap h ms : Int} {L : List Pg} {w : World} (hp : PoolM w base x m v cap L h ms) (hl : L.length ≤ 100000) :
    Calls Try.prog 13 #[.pointer (some ⟨x, 0, none⟩)] w fun e w' => ∃ v, e = .returned v ∧ OwnL w' w.heap.size 40 2 v ((keys L).map placeC) ∧ Grew w w' := by
  have hxl := hp.blk.lt
  have x0 := hp.blk.cell 0
  have x2 := hp.blk.cell 2
  obtain ⟨A, c, hv, _, _, hla⟩ := hp.own.listAt
  rw [placeC_len, keys_len] at hv
  subst hv
  have HC := Lib.hid (clone_any A c L.length (keys L) w (keys_len L).symm (by rw [keys_len]; exact hl) hla)
  clear hp hla
  go_enter Try.func13, Try.ntmps13
  go_wp2_with fail
  refine HC.out.mono ?_
  rintro e w1 ⟨v, rfl, hown, hg⟩
  go_wp2_with fail
  go_ret
  exact ⟨v, rfl, hown, hg⟩
end Go.Proofs.Ytfmhiocigoejjaa
