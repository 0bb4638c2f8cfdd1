/- The pool and the reference side by side: same. -/
import Derived.Test.YtfmhiocigoejjaaBufX
namespace Go.Proofs.Ytfmhiocigoejjaa
set_option linter.unusedVariables false
set_option linter.unusedSimpArgs false
set_option linter.unusedSectionVars false
open Go.RowKit
/-- A slice that lies apart from the pool. -/
def ApA (w : World) (A : Option Addr) (x m : Nat) (v : Value) : Prop := ∀ b off sp, A = some ⟨b, off, sp⟩ → b < w.heap.size ∧ b ≠ x ∧ b ≠ m ∧ v.ownBlock ≠ some b
theorem Foot.sub {S Q : Nat → Prop} {w : World} {x m : Nat} {v : Value} (h : Foot S w x m v) (hx : Q x) (hm : Q m) (ho : ∀ k, v.ownBlock = some k → Q k) (hn : ∀ k, w.heap.size ≤ k → Q k) : Foot (fun k => S k ∧ Q k) w x m v :=
  ⟨⟨h.x, hx⟩, ⟨h.m, hm⟩, fun k hk => ⟨h.own k hk, ho k hk⟩, fun k hk => ⟨h.new k hk, hn k hk⟩⟩
theorem ListAt.turned {w w' : World} {B sz : Nat} {A : Option Addr} {cells : List (List Value)} (h : ListAt w B sz A cells) {S : Nat → Prop} (ht : Turned S w w') (hB : B ≤ w.heap.size) (hS : ∀ b off sp, A = some ⟨b, off, sp⟩ → ¬ S b) : ListAt w' B sz A cells := fun hl => by
  obtain ⟨b, off, e, hb, hc⟩ := h hl
  exact ⟨b, off, e, hb, fun j cs hj i v hi => by rw [ht.cellEq _ _ (by omega) (hS b off Option.none e)]; exact hc j cs hj i v hi⟩
theorem keys_at (L : List Pg) (q : Nat) (h : q < L.length) (h' : q < (keys L).length) : (keys L)[q] = L[q].1 := by simp [keys]
set_option maxRecDepth 100000 in
set_option maxHeartbeats 4000000 in
theorem same_any (x m base : Nat) (v : Value) (cap cap' h ms : Int) (L : List Pg) (A : Option Addr) (c : Nat) (w : World) (hp : PoolM w base x m v cap' L h ms) (hl : L.length ≤ 1000) (hr : PgsAt w w.heap.size A L) :
    Calls Try.prog 21 #[.pointer (some ⟨x, 0, none⟩), .agg #[.int .i64 cap, .slice A L.length c, .int .i64 h, .int .i64 ms]] w fun e w' => e = .returned (.bool true) ∧ Grew w w' := by
  have g0 := (Grew.refl w).alloc (.cells #[.int .i64 cap, .slice A L.length c, .int .i64 h, .int .i64 ms] 54)
  have HP := Lib.hid (hp.grew g0)
  have HR := Lib.hid hr
  have hbx := Blk.new w 54 #[.int .i64 cap, .slice A L.length c, .int .i64 h, .int .i64 ms] rfl
  clear hp hr
  go_enter Try.func21, Try.ntmps21
  go_wp2_with fail
  refine (places_any HP.out (by omega)).mono ?_
  rintro e w1 ⟨b1, rfl, hown1, g1⟩
  obtain ⟨A1, c1, hv1, hc1, _, _⟩ := hown1.listAt
  rw [placeC_len, keys_len] at hv1 hc1
  subst hv1
  go_wp2_with fail
  refine (hits_any (HP.out.grew g1)).mono ?_
  rintro e w2 ⟨rfl, n2, rfl⟩
  have hbx2 := (hbx.grew g1).drewN n2
  have hg2 := (g0.trans g1).drewN n2
  have HO := Lib.hid (hown1.drewN n2)
  have HP2 := Lib.hid ((HP.out.grew g1).grew ((Grew.refl _).drewN n2))
  obtain ⟨w2, hw2⟩ : ∃ w2, w2 = w1.drewN n2 := ⟨_, rfl⟩
  rw [← hw2] at hbx2 hg2 HO HP2 ⊢
  clear hw2 hown1 g1 g0 hbx
  have x1 := hbx2.cell 1
  have x2 := hbx2.cell 2
  have x3 := hbx2.cell 3
  have hbl := hbx2.lt
  go_wp2_with fail
  go_quiet ((go_at_call 12; exact Calls.quiet_of_same ((len_any (HP2.out.grew ((Grew.refl _).drewN _))).mono (fun _ _ h => ⟨h.1, h.2.symm⟩))))
  have hg3 := hg2.drewN nq
  have HO3 := Lib.hid (HO.out.drewN nq)
  have HB3 := Lib.hid (hbx2.drewN nq)
  obtain ⟨w3, hw3⟩ : ∃ w3, w3 = w2.drewN nq := ⟨_, rfl⟩
  rw [← hw3] at hg3 HO3 HB3 ⊢
  clear hw3 hg2 HO HP2 hbx2 x1 x2 x3 hbl
  go_wp2_with fail
  go_loopg [44] L.length (fun gk i wq => ∃ q : Nat, q ≤ L.length ∧ gk = L.length - q ∧ i = .int .i64 q ∧ Grew w3 wq)
  case atStart => exact ⟨0, by omega, by omega, rfl, Grew.refl _⟩
  case round =>
    obtain ⟨q, hq, hgk, rfl, hgq⟩ := hrel
    have HGK := Lib.hid hgk
    have hO := HO3.out.grew hgq
    have hb := HB3.out.grew hgq
    have x1 := hb.cell 1
    have hbl := hb.lt
    clear hgk hb
    by_cases hql : q < L.length
    · have hqk : q < (keys L).length := by rw [keys_len]; exact hql
      rcases hO.form with ⟨hv', h0⟩ | ⟨g', gc', hv', hbg', hgl', hgc', hgcm'⟩
      · exfalso
        have := congrArg List.length h0
        rw [placeC_len, keys_len] at this
        simp only [List.length_nil] at this
        omega
      · rw [placeC_len, keys_len] at hv' hgc'
        injection hv' with e1' _ e3'
        subst e1'; subst e3'
        obtain ⟨p2, p3⟩ := own_place hO hqk
        rw [keys_at L q hql] at p2 p3
        obtain ⟨bb, off, rfl, hbb, e0, e1, e2, e3⟩ := (HR.out.hold (Nat.le_refl _) (hg3.trans hgq)).at_ hql
        obtain ⟨⟨⟨ta, tb⟩, td⟩, ht⟩ : ∃ t, L[q] = t := ⟨_, rfl⟩
        rw [ht] at p2 p3 e0 e1 e2 e3
        simp only at p2 p3 e0 e1 e2 e3
        clear ht hO
        go_wp2_with fail
        go_quiet (fail)
        go_wp2_with fail
        go_roundg (L.length - (q + 1))
        case measure => rw [HGK.out]; omega
        case rel => exact ⟨q + 1, by omega, by omega, by go_num, hgq.drewN _⟩
    · obtain rfl : q = L.length := by omega
      clear hO
      go_wp2_with fail
      go_ret
      exact ⟨rfl, hg3.trans hgq⟩
end Go.Proofs.Ytfmhiocigoejjaa
