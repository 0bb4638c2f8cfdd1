/- awake; BufferSizes' walk. -/
import Derived.Test.YtfmhiocigoejjaaBufH
namespace Go.Proofs.Ytfmhiocigoejjaa
set_option linter.unusedVariables false
set_option linter.unusedSimpArgs false
set_option linter.unusedSectionVars false
open Go.RowKit
def sA : ByteArray := ⟨#[97]⟩
theorem aw1 : putS 2 [] (7, 1) (⟨#[97]⟩, 1) = [((7, 1), (⟨#[97]⟩, 1))] := rfl
theorem aw2 : putS 2 [((7, 1), (⟨#[97]⟩, 1))] (7, 2) (⟨#[98]⟩, 1) = [((7, 1), (⟨#[97]⟩, 1)), ((7, 2), (⟨#[98]⟩, 1))] := rfl
theorem aw3 : look [((7, 1), (⟨#[97]⟩, 1)), ((7, 2), (⟨#[98]⟩, 1))] (7, 1) = some (⟨#[97]⟩, 1) := rfl
theorem aw4 : rmv [((7, 1), (⟨#[97]⟩, 1)), ((7, 2), (⟨#[98]⟩, 1))] (7, 1) ++ [((7, 1), (⟨#[97]⟩, 1))] = [((7, 2), (⟨#[98]⟩, 1)), ((7, 1), (⟨#[97]⟩, 1))] := rfl
theorem aw5 : putS 2 [((7, 2), (⟨#[98]⟩, 1)), ((7, 1), (⟨#[97]⟩, 1))] (7, 3) (⟨#[99]⟩, 1) = [((7, 1), (⟨#[97]⟩, 1)), ((7, 3), (⟨#[99]⟩, 1))] := rfl
theorem okSmall {a b : Int} (h : 0 ≤ a ∧ a ≤ 100 ∧ 0 ≤ b ∧ b ≤ 100) : okPlace (a, b) := ⟨⟨by show _ ≤ a; omega, by show a ≤ _; omega⟩, ⟨by show _ ≤ b; omega, by show b ≤ _; omega⟩⟩
theorem Turned.toGrew {w w' : World} (h : Turned (fun k => w.heap.size ≤ k) w w') : Grew w w' := h.grew (fun k hk hs => by omega)
set_option maxRecDepth 100000 in
set_option maxHeartbeats 4000000 in
theorem awake_any (w : World) : Calls Try.prog 10 #[] w fun e w' => e = .returned (.bool true) ∧ Grew w w' := by
  go_enter Try.func10, Try.ntmps10
  go_wp2_with fail
  refine (new_any 2 w (by omega) (by omega)).mono ?_
  rintro e ws ⟨x, m, rfl, hp, hg⟩
  have hT : Turned (fun k => w.heap.size ≤ k) w ws := hg.turned _
  have hbw := hg.size
  have hF := Foot.base hp hbw
  clear hg
  obtain ⟨v, hv⟩ : ∃ v, v = Value.slice none 0 0 := ⟨_, rfl⟩
  rw [← hv] at hp hF
  clear hv
  go_wp2_with fail
  refine (put_any x m _ v 2 0 0 [] 7 1 ⟨#[97]⟩ 1 _ _ hp hF (by simp) (by omega) hbw (okSmall (by omega))).mono ?_
  rintro e ws ⟨rfl, ⟨v, hp', hF'⟩, gs⟩
  replace hT := hT.trans gs
  clear hp hF gs
  have hp := hp'
  have hF := hF'
  clear hp' hF'
  have hbw := hT.size
  rw [aw1] at hp
  go_wp2_with fail
  refine (put_any x m _ v 2 0 0 _ 7 2 ⟨#[98]⟩ 1 _ _ hp hF (by simp) (by omega) hbw (okSmall (by omega))).mono ?_
  rintro e ws ⟨rfl, ⟨v, hp', hF'⟩, gs⟩
  replace hT := hT.trans gs
  clear hp hF gs
  have hp := hp'
  have hF := hF'
  clear hp' hF'
  have hbw := hT.size
  rw [aw2] at hp
  go_wp2_with fail
  refine (get_some x m _ v 2 0 0 _ 7 1 ⟨#[97]⟩ 1 _ _ hp hF (by simp) hbw (okSmall (by omega)) (by omega) aw3).mono ?_
  rintro e ws ⟨rfl, ⟨v, hp', hF'⟩, gs⟩
  replace hT := hT.trans gs
  clear hp hF gs
  have hp := hp'
  have hF := hF'
  clear hp' hF'
  have hbw := hT.size
  rw [aw4] at hp
  go_wp2_with fail
  refine (put_any x m _ v 2 _ 0 _ 7 3 ⟨#[99]⟩ 1 _ _ hp hF (by simp) (by omega) hbw (okSmall (by omega))).mono ?_
  rintro e ws ⟨rfl, ⟨v, hp', hF'⟩, gs⟩
  replace hT := hT.trans gs
  clear hp hF gs
  have hp := hp'
  have hF := hF'
  clear hp' hF'
  have hbw := hT.size
  rw [aw5] at hp
  go_wp2_with fail
  refine (places_any hp (by simp)).mono ?_
  rintro e wt ⟨v2, rfl, hown, hg⟩
  have hT2 := hT.andGrew hg
  rcases hown.form with ⟨rfl, h0⟩ | ⟨g, gc, hv, hbg, hgl, hgc, hgcm⟩
  · exfalso; have := congrArg List.length h0; simp [keys] at this
  · have hv' : v2 = .slice (some ⟨g, 0, none⟩) 2 gc := hv
    subst hv'
    have hgc' : 2 ≤ gc := hgc
    obtain ⟨c0, c1⟩ := own_place hown (k := 0) (by simp [keys])
    obtain ⟨d0, d1⟩ := own_place hown (k := 1) (by simp [keys])
    simp only [keys, List.map_cons, List.map_nil, List.getElem_cons_zero, List.getElem_cons_succ, Nat.zero_mul, Nat.zero_add, Nat.one_mul] at c0 c1 d0 d1
    clear hp hv hown
    go_wp2_with fail
    go_ret
    exact ⟨rfl, hT2.toGrew⟩
set_option maxRecDepth 100000 in
set_option maxHeartbeats 4000000 in
theorem bufferSizes_any (c : Int) (c0 : -9223372036854775808 ≤ c) (c1 : c ≤ 9223372036854775807) (w : World) : Calls Try.prog 3 #[.int .i64 c] w fun e w' => e = .returned (.bool true) ∧ Grew w w' := by
  by_cases hc : c < 1 ∨ 4096 < c
  · have HN := fun W => Lib.hid (new_no c W hc)
    rcases hc with hc | hc
    · go_enter Try.func3, Try.ntmps3
      go_wp2_with fail
      refine (awake_any _).mono ?_
      rintro e w1 ⟨rfl, g1⟩
      go_wp2_with fail
      refine (HN _).out.mono ?_
      rintro e w2 ⟨rfl, rfl⟩
      go_wp2_with fail
      go_ret
      exact ⟨rfl, g1⟩
    · have hc' : 1 ≤ c := by omega
      go_enter Try.func3, Try.ntmps3
      go_wp2_with fail
      refine (awake_any _).mono ?_
      rintro e w1 ⟨rfl, g1⟩
      go_wp2_with fail
      refine (HN _).out.mono ?_
      rintro e w2 ⟨rfl, rfl⟩
      go_wp2_with fail
      go_ret
      exact ⟨rfl, g1⟩
  · have h1 : 1 ≤ c := by omega
    have h2 : c ≤ 4096 := by omega
    clear hc
    go_enter Try.func3, Try.ntmps3
    go_wp2_with fail
    refine (awake_any _).mono ?_
    rintro e w1 ⟨rfl, g1⟩
    go_wp2_with fail
    refine (new_any c w1 h1 h2).mono ?_
    rintro e w2 ⟨x, m, rfl, hp, g2⟩
    have hx := hp.blk.lt
    go_wp2_with fail
    refine (len_any hp).mono ?_
    rintro e w3 ⟨rfl, rfl⟩
    go_wp2_with fail
    refine (places_any hp (by simp)).mono ?_
    rintro e w4 ⟨v, rfl, hown, g4⟩
    have hp4 : PoolM w4 w1.heap.size x m (.slice none 0 0) c [] 0 0 := ⟨hp.blk.grew g4, hp.map.grew g4, OwnL.nil _ _ _ _, hp.bx, hp.bm, hp.nd, hp.ok⟩
    obtain ⟨A, cc, hv, _, _, _⟩ := hown.listAt
    have hv' : v = .slice A 0 cc := hv
    subst hv'
    have hg4 := g1.trans (g2.trans g4)
    clear hown hv hp g1 g2 g4
    have HP := Lib.hid hp4
    go_wp2_with fail
    refine (hits_any hp4).mono ?_
    rintro e w5 ⟨rfl, n, rfl⟩
    go_wp2_with fail
    go_ret
    exact ⟨rfl, by (repeat' first | (with_reducible exact Grew.refl _) | (with_reducible assumption) | (with_reducible refine Grew.alloc ?_ _) | (with_reducible refine Grew.drew ?_) | (with_reducible refine Grew.drewN ?_ _) | (with_reducible refine Grew.setRow ?_ (by first | (simp; done) | (simp; omega) | omega) _) | (with_reducible refine Grew.setCell ?_ (by first | (simp; done) | (simp; omega) | omega) _) | ((with_reducible apply Grew.trans); rotate_left; (with_reducible assumption)) | ((with_reducible apply Grew.turn); rotate_left; (with_reducible assumption); (focus (intro i hi; first | omega | (simp at hi; omega)))) | fail)⟩
end Go.Proofs.Ytfmhiocigoejjaa
