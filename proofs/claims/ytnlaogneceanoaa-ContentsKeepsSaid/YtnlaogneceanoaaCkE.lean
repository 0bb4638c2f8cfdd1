/- Chapter 6: Best, on both sides. slices.SortFunc, laid at this program (written by lay.py out of the kit's own command). Chapter 6: the comparison of two runs, and the sort by it. Chapter 6: Allocate, on both sides. Chapter 6: Extend. Chapter 6: the contracts by value, and awake. Chapter 6: awake. Chapter 6: Room, and SpaceWithin. -/
import Derived.Shelf.SlSortCmp.WholeK
import Derived.Shelf.SlSortCmp.NoneTotal
import Derived.Test.YtnlaogneceanoaaCkA
import Derived.Test.YtnlaogneceanoaaCkB
import Derived.Test.YtnlaogneceanoaaCkC
import Derived.Test.YtnlaogneceanoaaCkD
namespace Go.Proofs.Ytnlaogneceanoaa
set_option linter.unusedVariables false
set_option linter.unusedSimpArgs false
set_option linter.unusedSectionVars false
open Go.RowKit
/-- A run of a list of runs with natural numbers, in memory. -/
theorem runs_nat {w : World} {B : Nat} {A : Option Addr} {N : List (Nat × Nat)} (h : RunsAt w B A (ints N)) {k : Nat} (hk : k < N.length) :
    ∃ b off, A = some ⟨b, off, none⟩ ∧ b < B ∧ w.cell? ⟨b, off + k * 2, none⟩ = some (.int .i64 (N[k].1 : Int)) ∧ w.cell? ⟨b, off + k * 2 + 1, none⟩ = some (.int .i64 (N[k].2 : Int)) := by
  obtain ⟨b, off, f, c, e, hb, hlk, _, x0, x1⟩ := h.at_ (k := k) (by rw [ints_len]; exact hk)
  have hlk' : (ints N)[k]'(by rw [ints_len]; exact hk) = ((N[k].1 : Int), (N[k].2 : Int)) := by simp [ints]
  rw [hlk'] at hlk
  injection hlk with h1 h2
  exact ⟨b, off, e, hb, by rw [h1]; exact x0, by rw [h2]; exact x1⟩
theorem own_runs2 {w : World} {base : Nat} {v : Value} {l : List (Nat × Nat)} (h : OwnL w base 58 2 v (l.map rowN)) (hb : ∀ r ∈ l, r.1 + r.2 ≤ 1000000) :
    ∃ A c, v = .slice A l.length c ∧ RunsAt w w.heap.size A (ints l) ∧ l.length ≤ c ∧ c ≤ 9223372036854775807 ∧ ∀ b off, A = some ⟨b, off, none⟩ → base ≤ b ∧ b < w.heap.size := by
  obtain ⟨A, c, hv, h1, h2, hl⟩ := h.listAt
  rw [List.length_map] at hv h1
  refine ⟨A, c, hv, ⟨?_, by rw [ints_rows]; exact hl⟩, h1, h2, ?_⟩
  · intro r hr
    obtain ⟨x, hx, rfl⟩ := List.mem_map.1 hr
    have := hb x hx
    unfold okRun
    simp only []
    omega
  · intro b off hA
    rcases h.form with ⟨hv', _⟩ | ⟨g, cap, hv', hg, hg2, _⟩
    · rw [hv] at hv'
      injection hv' with hv'
      rw [hA] at hv'; cases hv'
    · rw [hv] at hv'
      injection hv' with hv'
      rw [hA] at hv'
      injection hv' with hv'
      injection hv' with hv'
      omega
theorem RunsAt.turned {S : Nat → Prop} {w w' : World} {B : Nat} {A : Option Addr} {l : List (Int × Int)} (h : RunsAt w B A l) (hB : B ≤ w.heap.size) (ht : Turned S w w') (hS : ∀ b off, A = some ⟨b, off, none⟩ → ¬ S b) : RunsAt w' B A l :=
  ⟨h.1, fun hp => by
    obtain ⟨b, off, e, hb, hc⟩ := h.2 hp
    exact ⟨b, off, e, hb, fun j cs hj i v hi => by rw [ht.cellEq _ _ (by omega) (hS b off e)]; exact hc j cs hj i v hi⟩⟩
def BestR (w : World) (d : (Int × Int) × Bool) (e : Ending) (w' : World) : Prop := e = .returned (.tuple #[.agg #[.int .i64 d.1.1, .int .i64 d.1.2], .bool d.2]) ∧ Grew w w'
section
variable (A : Option Addr) (c : Nat) (l : List (Int × Int)) (w : World) (B : Nat) (hB : B ≤ w.heap.size) (hl : l.length ≤ 1000000) (hr : RunsAt w B A l) (n : Int) (n0 : -9223372036854775808 ≤ n) (n1 : n ≤ 9223372036854775807)
include hB hl hr n0 n1
set_option maxRecDepth 100000 in
set_option maxHeartbeats 4000000 in
theorem best_any : Calls Try.prog 99 #[.slice A l.length c, .int .i64 n] w (BestR w (bestS (memS l) n)) := by
  by_cases hn : n < 1
  · have HE := Lib.hid (show bestS (memS l) n = ((0, 0), false) from by unfold bestS; rw [if_pos (.inl hn)])
    go_enter Try.func99, Try.ntmps99
    go_wp2_with fail
    refine bodyPost_ret (by first | (simp [*, results, Try.results99, go_sem]; rfl) | simp [*, results, Try.results99, go_sem]) rfl ?_
    rw [HE.out]
    exact ⟨rfl, by (repeat' first | (with_reducible exact Grew.refl _) | (with_reducible assumption) | (with_reducible refine Grew.alloc ?_ _) | (with_reducible refine Grew.drew ?_) | (with_reducible refine Grew.drewN ?_ _) | (with_reducible refine Grew.setRow ?_ (by first | (simp; done) | (simp; omega) | omega) _) | (with_reducible refine Grew.setCell ?_ (by first | (simp; done) | (simp; omega) | omega) _) | ((with_reducible apply Grew.trans); rotate_left; (with_reducible assumption)) | ((with_reducible apply Grew.turn); rotate_left; (with_reducible assumption); (focus (intro i hi; first | omega | (simp at hi; omega)))) | fail)⟩
  have HS := Lib.hid (show bestS (memS l) n = if n < 1 ∨ (bestF n (normS (memS l))).2 = 0 then ((0, 0), false) else ((((bestF n (normS (memS l))).1 : Int), n), true) from rfl)
  have hC := fun w' (g : Grew w w') => normal_any A c l w' B (Nat.le_trans hB g.size) hl (hr.keep hB g)
  have hbd := normS_bd (memS l)
  have hNl := normS_len (memS l)
  generalize normS (memS l) = N at *
  have HC := Lib.hid hC
  have HBD := Lib.hid hbd
  have HFB := Lib.hid (fun k => bestF_bd n (N.take k) 128 (fun r hr => hbd r (List.mem_of_mem_take hr)))
  clear hr hC hbd
  go_enter Try.func99, Try.ntmps99
  go_wp2_with fail
  refine (HC.out _ (by (repeat' first | (with_reducible exact Grew.refl _) | (with_reducible assumption) | (with_reducible refine Grew.alloc ?_ _) | (with_reducible refine Grew.drew ?_) | (with_reducible refine Grew.drewN ?_ _) | (with_reducible refine Grew.setRow ?_ (by first | (simp; done) | (simp; omega) | omega) _) | (with_reducible refine Grew.setCell ?_ (by first | (simp; done) | (simp; omega) | omega) _) | ((with_reducible apply Grew.trans); rotate_left; (with_reducible assumption)) | ((with_reducible apply Grew.turn); rotate_left; (with_reducible assumption); (focus (intro i hi; first | omega | (simp at hi; omega)))) | fail))).mono ?_
  rintro e w1 ⟨v, rfl, hown, g1⟩
  have HB4 := ((Blk.new w 58 #[.int .i64 0, .int .i64 0] rfl).alloc (.cells #[.int .i64 0, .int .i64 0] 58)).grew g1
  have HB6 := (Blk.new (w.alloc (.cells #[.int .i64 0, .int .i64 0] 58)) 58 #[.int .i64 0, .int .i64 0] (n := w.heap.size + 1) (by simp)).grew g1
  have hG : Grew w w1 := (((Grew.refl w).alloc _).alloc _).trans g1
  obtain ⟨A', c', hv, hr', _, _, hA'⟩ := own_runs2 hown (fun r hr => Nat.le_trans (HBD.out r hr) (by omega))
  subst hv
  have HR := Lib.hid hr'
  have HA := Lib.hid (show ∀ b off, A' = some ⟨b, off, none⟩ → ¬ b = w.heap.size + 1 from fun b off e => by have := (hA' b off e).1; simp at this; omega)
  have HB4' := Lib.hid HB4
  clear hown hr' HC g1 hA' HB4
  go_wp2_with fail
  go_loopg [16] N.length (fun gk i wr => ∃ k : Nat, k ≤ N.length ∧ gk = N.length - k ∧ i = .int .i64 k ∧ Blk wr (w.heap.size + 1) 58 #[.int .i64 ((bestF n (N.take k)).1 : Int), .int .i64 ((bestF n (N.take k)).2 : Int)] ∧ Turned (fun i => i = w.heap.size + 1) w1 wr)
  case atStart => exact ⟨0, by omega, by omega, rfl, HB6, Turned.refl _ _⟩
  case round =>
    obtain ⟨k, hk, hgk, rfl, hb6, ht⟩ := hrel
    have HGK := Lib.hid hgk
    have HT := Lib.hid ht
    have hb4 := HB4'.out.turned ht (by omega)
    clear hgk
    have hfb := HFB.out k
    by_cases hlt : k < N.length
    · obtain ⟨b, off, rfl, hb, x0, x1⟩ := runs_nat (HR.out.turned (Nat.le_refl _) ht HA.out) hlt
      have hbs : b < wr.heap.size := by have := ht.size; omega
      have hnb : ¬ b = w.heap.size + 1 := HA.out b off rfl
      have hrb := HBD.out _ (List.getElem_mem hlt)
      have HST := Lib.hid (bestF_snoc n N k hlt)
      have y0 := hb6.cell 0
      have y1 := hb6.cell 1
      have yf0 := hb6.frozen 0
      have yf1 := hb6.frozen 1
      have hlb := hb6.lt
      have hgs := hG.size
      generalize N[k] = r at *
      obtain ⟨rf, rc⟩ := r
      generalize bestF n (N.take k) = bb at *
      obtain ⟨bf, bc⟩ := bb
      simp only at x0 x1 y0 y1 hrb hfb
      clear ht
      have HR2 := Lib.hid hb6
      by_cases h1 : n ≤ (rc : Int)
      · by_cases h2 : bc = 0
        · have h2b : (((bc : Nat) : Int) == 0) = true := beq_iff_eq.2 (by omega)
          have HN := Lib.hid (show bestF n (N.take (k + 1)) = (rf, rc) from by rw [HST.out]; unfold bestStep; rw [if_pos ⟨h1, .inl h2⟩])
          clear h2
          go_wp2_with fail
          go_roundg (N.length - (k + 1))
          case measure => rw [HGK.out]; omega
          case rel => exact ⟨k + 1, by omega, by omega, by go_num, by rw [HN.out]; have := HR2.out; (apply Blk.conv; (· (repeat' first | (with_reducible assumption) | (with_reducible apply Blk.setRow) | ((with_reducible apply Blk.farRow); rotate_left; (focus (first | (simp; done) | (simp; omega) | omega))) | (with_reducible apply Blk.drew) | (with_reducible apply Blk.drewN) | (with_reducible apply Blk.set_) | (with_reducible exact Blk.new _ _ _ (by first | rfl | (simp; done) | (simp; omega))) | (with_reducible apply Blk.alloc) | ((with_reducible apply Blk.far); rotate_left; (focus (first | (simp; done) | (simp; omega) | omega))) | ((with_reducible apply Blk.grew); rotate_left; (with_reducible assumption)) | ((with_reducible apply Blk.turned); rotate_left; (with_reducible assumption); (focus (first | (simp; done) | (simp; omega) | omega))) | fail)); (· rfl)), by have := HT.out; (repeat' first | (with_reducible exact Turned.refl _ _) | (with_reducible assumption) | (with_reducible refine Turned.alloc ?_ _) | (with_reducible refine Turned.drew ?_) | (with_reducible refine Turned.drewN ?_ _) | (with_reducible refine Turned.setRow ?_ (by first | (simp; done) | (simp; omega) | omega) _) | (with_reducible refine Turned.setCell ?_ (by first | (simp; done) | (simp; omega) | omega) _) | ((with_reducible apply Turned.andGrew); rotate_left; (with_reducible assumption)) | ((with_reducible apply Turned.trans); rotate_left; (with_reducible assumption)) | fail)⟩
        · have h2b : (((bc : Nat) : Int) == 0) = false := beq_eq_false_iff_ne.2 (by omega)
          by_cases h3 : rc < bc
          · have HN := Lib.hid (show bestF n (N.take (k + 1)) = (rf, rc) from by rw [HST.out]; unfold bestStep; rw [if_pos ⟨h1, .inr h3⟩])
            clear h2
            go_wp2_with fail
            go_roundg (N.length - (k + 1))
            case measure => rw [HGK.out]; omega
            case rel => exact ⟨k + 1, by omega, by omega, by go_num, by rw [HN.out]; have := HR2.out; (apply Blk.conv; (· (repeat' first | (with_reducible assumption) | (with_reducible apply Blk.setRow) | ((with_reducible apply Blk.farRow); rotate_left; (focus (first | (simp; done) | (simp; omega) | omega))) | (with_reducible apply Blk.drew) | (with_reducible apply Blk.drewN) | (with_reducible apply Blk.set_) | (with_reducible exact Blk.new _ _ _ (by first | rfl | (simp; done) | (simp; omega))) | (with_reducible apply Blk.alloc) | ((with_reducible apply Blk.far); rotate_left; (focus (first | (simp; done) | (simp; omega) | omega))) | ((with_reducible apply Blk.grew); rotate_left; (with_reducible assumption)) | ((with_reducible apply Blk.turned); rotate_left; (with_reducible assumption); (focus (first | (simp; done) | (simp; omega) | omega))) | fail)); (· rfl)), by have := HT.out; (repeat' first | (with_reducible exact Turned.refl _ _) | (with_reducible assumption) | (with_reducible refine Turned.alloc ?_ _) | (with_reducible refine Turned.drew ?_) | (with_reducible refine Turned.drewN ?_ _) | (with_reducible refine Turned.setRow ?_ (by first | (simp; done) | (simp; omega) | omega) _) | (with_reducible refine Turned.setCell ?_ (by first | (simp; done) | (simp; omega) | omega) _) | ((with_reducible apply Turned.andGrew); rotate_left; (with_reducible assumption)) | ((with_reducible apply Turned.trans); rotate_left; (with_reducible assumption)) | fail)⟩
          · have HN := Lib.hid (show bestF n (N.take (k + 1)) = (bf, bc) from by rw [HST.out]; unfold bestStep; rw [if_neg (fun h => h.2.elim h2 h3)])
            clear h2
            go_wp2_with fail
            go_roundg (N.length - (k + 1))
            case measure => rw [HGK.out]; omega
            case rel => exact ⟨k + 1, by omega, by omega, by go_num, by rw [HN.out]; have := HR2.out; (apply Blk.conv; (· (repeat' first | (with_reducible assumption) | (with_reducible apply Blk.setRow) | ((with_reducible apply Blk.farRow); rotate_left; (focus (first | (simp; done) | (simp; omega) | omega))) | (with_reducible apply Blk.drew) | (with_reducible apply Blk.drewN) | (with_reducible apply Blk.set_) | (with_reducible exact Blk.new _ _ _ (by first | rfl | (simp; done) | (simp; omega))) | (with_reducible apply Blk.alloc) | ((with_reducible apply Blk.far); rotate_left; (focus (first | (simp; done) | (simp; omega) | omega))) | ((with_reducible apply Blk.grew); rotate_left; (with_reducible assumption)) | ((with_reducible apply Blk.turned); rotate_left; (with_reducible assumption); (focus (first | (simp; done) | (simp; omega) | omega))) | fail)); (· rfl)), by have := HT.out; (repeat' first | (with_reducible exact Turned.refl _ _) | (with_reducible assumption) | (with_reducible refine Turned.alloc ?_ _) | (with_reducible refine Turned.drew ?_) | (with_reducible refine Turned.drewN ?_ _) | (with_reducible refine Turned.setRow ?_ (by first | (simp; done) | (simp; omega) | omega) _) | (with_reducible refine Turned.setCell ?_ (by first | (simp; done) | (simp; omega) | omega) _) | ((with_reducible apply Turned.andGrew); rotate_left; (with_reducible assumption)) | ((with_reducible apply Turned.trans); rotate_left; (with_reducible assumption)) | fail)⟩
      · have HN := Lib.hid (show bestF n (N.take (k + 1)) = (bf, bc) from by rw [HST.out]; unfold bestStep; rw [if_neg (fun h => h1 h.1)])
        go_wp2_with fail
        go_roundg (N.length - (k + 1))
        case measure => rw [HGK.out]; omega
        case rel => exact ⟨k + 1, by omega, by omega, by go_num, by rw [HN.out]; have := HR2.out; (apply Blk.conv; (· (repeat' first | (with_reducible assumption) | (with_reducible apply Blk.setRow) | ((with_reducible apply Blk.farRow); rotate_left; (focus (first | (simp; done) | (simp; omega) | omega))) | (with_reducible apply Blk.drew) | (with_reducible apply Blk.drewN) | (with_reducible apply Blk.set_) | (with_reducible exact Blk.new _ _ _ (by first | rfl | (simp; done) | (simp; omega))) | (with_reducible apply Blk.alloc) | ((with_reducible apply Blk.far); rotate_left; (focus (first | (simp; done) | (simp; omega) | omega))) | ((with_reducible apply Blk.grew); rotate_left; (with_reducible assumption)) | ((with_reducible apply Blk.turned); rotate_left; (with_reducible assumption); (focus (first | (simp; done) | (simp; omega) | omega))) | fail)); (· rfl)), by have := HT.out; (repeat' first | (with_reducible exact Turned.refl _ _) | (with_reducible assumption) | (with_reducible refine Turned.alloc ?_ _) | (with_reducible refine Turned.drew ?_) | (with_reducible refine Turned.drewN ?_ _) | (with_reducible refine Turned.setRow ?_ (by first | (simp; done) | (simp; omega) | omega) _) | (with_reducible refine Turned.setCell ?_ (by first | (simp; done) | (simp; omega) | omega) _) | ((with_reducible apply Turned.andGrew); rotate_left; (with_reducible assumption)) | ((with_reducible apply Turned.trans); rotate_left; (with_reducible assumption)) | fail)⟩
    · obtain rfl : k = N.length := by omega
      rw [List.take_length] at hb6 hfb
      have hGe : Grew w wr := hG.turn ht (fun i hi => by omega)
      have HGE := Lib.hid hGe
      have y0 := hb6.cell 0
      have y1 := hb6.cell 1
      have hlb := hb6.lt
      have z0 := hb4.cell 0
      have z1 := hb4.cell 1
      have zf0 := hb4.frozen 0
      have zf1 := hb4.frozen 1
      have hlb4 := hb4.lt
      clear ht hGe
      generalize bestF n N = bb at *
      obtain ⟨bf, bc⟩ := bb
      simp only at y0 y1 hfb
      by_cases h2 : bc = 0
      · have h2b : (((bc : Nat) : Int) == 0) = true := beq_iff_eq.2 (by omega)
        have HE := Lib.hid (show bestS (memS l) n = ((0, 0), false) from by rw [HS.out]; exact if_pos (.inr h2))
        clear h2
        go_wp2_with fail
        refine bodyPost_ret (by first | (simp [*, results, Try.results99, go_sem]; rfl) | simp [*, results, Try.results99, go_sem]) rfl ?_
        rw [HE.out]
        exact ⟨rfl, by have := HGE.out; (repeat' first | (with_reducible exact Grew.refl _) | (with_reducible assumption) | (with_reducible refine Grew.alloc ?_ _) | (with_reducible refine Grew.drew ?_) | (with_reducible refine Grew.drewN ?_ _) | (with_reducible refine Grew.setRow ?_ (by first | (simp; done) | (simp; omega) | omega) _) | (with_reducible refine Grew.setCell ?_ (by first | (simp; done) | (simp; omega) | omega) _) | ((with_reducible apply Grew.trans); rotate_left; (with_reducible assumption)) | ((with_reducible apply Grew.turn); rotate_left; (with_reducible assumption); (focus (intro i hi; first | omega | (simp at hi; omega)))) | fail)⟩
      · have h2b : (((bc : Nat) : Int) == 0) = false := beq_eq_false_iff_ne.2 (by omega)
        have HE := Lib.hid (show bestS (memS l) n = (((bf : Int), n), true) from by rw [HS.out]; exact if_neg (fun h => h.elim (fun h => by omega) h2))
        clear h2
        go_wp2_with fail
        refine bodyPost_ret (by first | (simp [*, results, Try.results99, go_sem]; rfl) | simp [*, results, Try.results99, go_sem]) rfl ?_
        rw [HE.out]
        exact ⟨rfl, by have := HGE.out; (repeat' first | (with_reducible exact Grew.refl _) | (with_reducible assumption) | (with_reducible refine Grew.alloc ?_ _) | (with_reducible refine Grew.drew ?_) | (with_reducible refine Grew.drewN ?_ _) | (with_reducible refine Grew.setRow ?_ (by first | (simp; done) | (simp; omega) | omega) _) | (with_reducible refine Grew.setCell ?_ (by first | (simp; done) | (simp; omega) | omega) _) | ((with_reducible apply Grew.trans); rotate_left; (with_reducible assumption)) | ((with_reducible apply Grew.turn); rotate_left; (with_reducible assumption); (focus (intro i hi; first | omega | (simp at hi; omega)))) | fail)⟩
end
end Go.Proofs.Ytnlaogneceanoaa
namespace Go.Proofs.Ytnlaogneceanoaa
set_option linter.unusedVariables false
set_option linter.unusedSimpArgs false
set_option linter.unusedSectionVars false
open Go.Shelf Go.RowKit Go.Lib
set_option maxRecDepth 100000
def sortIv_ren : Go.Shelf.Ren := ⟨fun | 6 => 101 | 15 => 83 | 14 => 119 | 28 => 113 | 29 => 114 | 20 => 130 | 21 => 131 | 22 => 132 | 23 => 133 | 24 => 134 | 25 => 135 | 26 => 136 | 27 => 137 | 46 => 139 | 47 => 122 | 48 => 123 | 49 => 140 | 50 => 141 | 57 => 142 | n => n, fun | 22 => 22 | 24 => 58 | 25 => 130 | 3 => 3 | 39 => 115 | 0 => 0 | 53 => 142 | 55 => 124 | 4 => 4 | 46 => 136 | 45 => 135 | 50 => 27 | 5 => 5 | 9 => 9 | 66 => 158 | 70 => 161 | 76 => 173 | 77 => 174 | n => n, fun | n => n⟩
theorem sortIv : Go.Proofs.SlLaysF0.n6 Try.prog sortIv_ren := {
  mixed := by kernel_rfl
  f6 := ⟨Try.f101.name, by decide, Try.func101.trans (congrArg some (by kernel_rfl))⟩
  f14 := ⟨Try.f119.name, by decide, Try.func119.trans (congrArg some (by kernel_rfl))⟩
  f15 := Try.func83.trans (congrArg some (by kernel_rfl))
  f20 := ⟨Try.f130.name, by decide, Try.func130.trans (congrArg some (by kernel_rfl))⟩
  f21 := ⟨Try.f131.name, by decide, Try.func131.trans (congrArg some (by kernel_rfl))⟩
  f22 := ⟨Try.f132.name, by decide, Try.func132.trans (congrArg some (by kernel_rfl))⟩
  f23 := ⟨Try.f133.name, by decide, Try.func133.trans (congrArg some (by kernel_rfl))⟩
  f24 := ⟨Try.f134.name, by decide, Try.func134.trans (congrArg some (by kernel_rfl))⟩
  f25 := ⟨Try.f135.name, by decide, Try.func135.trans (congrArg some (by kernel_rfl))⟩
  f26 := ⟨Try.f136.name, by decide, Try.func136.trans (congrArg some (by kernel_rfl))⟩
  f27 := ⟨Try.f137.name, by decide, Try.func137.trans (congrArg some (by kernel_rfl))⟩
  f28 := Try.func113.trans (congrArg some (by kernel_rfl))
  f29 := Try.func114.trans (congrArg some (by kernel_rfl))
  f46 := ⟨Try.f139.name, by decide, Try.func139.trans (congrArg some (by kernel_rfl))⟩
  f47 := Try.func122.trans (congrArg some (by kernel_rfl))
  f48 := Try.func123.trans (congrArg some (by kernel_rfl))
  f49 := ⟨Try.f140.name, by decide, Try.func140.trans (congrArg some (by kernel_rfl))⟩
  f50 := ⟨Try.f141.name, by decide, Try.func141.trans (congrArg some (by kernel_rfl))⟩
  f57 := ⟨Try.f142.name, by decide, Try.func142.trans (congrArg some (by kernel_rfl))⟩
  t0 := Try.underlying0
  a0 := Try.isAgg0
  z0 := Try.sizeOf0
  v0 := Try.zeroValue0
  t3 := Try.underlying3
  a3 := Try.isAgg3
  z3 := Try.sizeOf3
  v3 := Try.zeroValue3
  t4 := Try.underlying4
  a4 := Try.isAgg4
  z4 := Try.sizeOf4
  v4 := Try.zeroValue4
  t5 := Try.underlying5
  a5 := Try.isAgg5
  z5 := Try.sizeOf5
  v5 := Try.zeroValue5
  t9 := Try.underlying9
  a9 := Try.isAgg9
  z9 := Try.sizeOf9
  v9 := Try.zeroValue9
  t22 := Try.underlying22
  a22 := Try.isAgg22
  z22 := Try.sizeOf22
  v22 := Try.zeroValue22
  t25 := Try.underlying130
  a25 := Try.isAgg130
  z25 := Try.sizeOf130
  v25 := Try.zeroValue130
  t39 := Try.underlying115
  a39 := Try.isAgg115
  z39 := Try.sizeOf115
  v39 := Try.zeroValue115
  t45 := Try.underlying135
  a45 := Try.isAgg135
  z45 := Try.sizeOf135
  v45 := Try.zeroValue135
  t46 := Try.underlying136
  a46 := Try.isAgg136
  z46 := Try.sizeOf136
  v46 := Try.zeroValue136
  t50 := Try.underlying27
  a50 := Try.isAgg27
  z50 := Try.sizeOf27
  v50 := Try.zeroValue27
  t53 := Try.underlying142
  a53 := Try.isAgg142
  z53 := Try.sizeOf142
  v53 := Try.zeroValue142
  t55 := Try.underlying124
  a55 := Try.isAgg124
  z55 := Try.sizeOf124
  v55 := Try.zeroValue124
  t66 := Try.underlying158
  a66 := Try.isAgg158
  z66 := Try.sizeOf158
  v66 := Try.zeroValue158
  t70 := Try.underlying161
  a70 := Try.isAgg161
  z70 := Try.sizeOf161
  v70 := Try.zeroValue161
  t76 := Try.underlying173
  a76 := Try.isAgg173
  z76 := Try.sizeOf173
  v76 := Try.zeroValue173
  t77 := Try.underlying174
  a77 := Try.isAgg174
  z77 := Try.sizeOf174
  v77 := Try.zeroValue174
  }
end Go.Proofs.Ytnlaogneceanoaa
namespace Go.Proofs.Ytnlaogneceanoaa
set_option linter.unusedVariables false
set_option linter.unusedSimpArgs false
set_option linter.unusedSectionVars false
open Go.RowKit Go.Shelf Go.Lib
attribute [local go_sem ↓] Go.wp_at_zero Go.wp_at_succ
def FR : Type := Fin 256 × Fin 256
instance : Inhabited FR := ⟨(⟨0, by decide⟩, ⟨0, by decide⟩)⟩
def toF (r : Nat × Nat) : FR := (⟨r.1 % 256, Nat.mod_lt _ (by decide)⟩, ⟨r.2 % 256, Nat.mod_lt _ (by decide)⟩)
def ofF (x : FR) : Nat × Nat := (x.1.val, x.2.val)
theorem ofF_toF (r : Nat × Nat) (h : r.1 + r.2 ≤ 128) : ofF (toF r) = r := by
  obtain ⟨a, b⟩ := r
  simp only at h
  show (a % 256, b % 256) = (a, b)
  rw [Nat.mod_eq_of_lt (by omega), Nat.mod_eq_of_lt (by omega)]
def encRF (x : FR) : List Value := rowN (ofF x)
def cmpF (x y : FR) : Int := if (ofF x).2 = (ofF y).2 then ((ofF x).1 : Int) - ((ofF y).1 : Int) else ((ofF y).2 : Int) - ((ofF x).2 : Int)
theorem ltF (x y : FR) : Go.Proofs.ltOf cmpF x y = true ↔ ltR (ofF x) (ofF y) := by
  unfold Go.Proofs.ltOf cmpF ltR
  rw [decide_eq_true_eq]
  split <;> omega
theorem sworder : Go.Sort.SWO (Go.Proofs.ltOf cmpF) where
  irrefl x := by
    cases h : Go.Proofs.ltOf cmpF x x with
    | false => rfl
    | true => exact (ltR_asymm ((ltF x x).1 h) ((ltF x x).1 h)).elim
  trans x y z h1 h2 := by
    rw [ltF] at h1 h2 ⊢
    unfold ltR at *
    omega
  ntrans x y z h1 h2 := by
    rw [← Bool.not_eq_true] at h1 h2 ⊢
    rw [ltF] at h1 h2 ⊢
    unfold ltR at *
    omega
set_option maxRecDepth 100000 in
set_option maxHeartbeats 1000000 in
theorem bigger_any (x y : FR) (W : World) : Calls Try.prog 100 #[.agg (encRF x).toArray, .agg (encRF y).toArray] W fun e w' => e = .returned (.int .i64 (cmpF x y)) ∧ ∃ q os', w' = Go.Sort.grow (W.drewN q) os' := by
  have hx1 := x.1.isLt
  have hx2 := x.2.isLt
  have hy1 := y.1.isLt
  have hy2 := y.2.isLt
  show Calls Try.prog 100 #[.agg #[.int .i64 (x.1.val : Int), .int .i64 (x.2.val : Int)], .agg #[.int .i64 (y.1.val : Int), .int .i64 (y.2.val : Int)]] W _
  have HC := Lib.hid (show cmpF x y = if x.2.val = y.2.val then ((x.1.val : Int)) - (y.1.val : Int) else (y.2.val : Int) - (x.2.val : Int) from rfl)
  generalize x.1.val = a at *
  generalize x.2.val = b at *
  generalize y.1.val = c at *
  generalize y.2.val = d at *
  by_cases h : b = d
  · have hb : ((b : Int) != (d : Int)) = false := by rw [bne_eq_false_iff_eq]; omega
    have HE := Lib.hid (show cmpF x y = (a : Int) - (c : Int) from by rw [HC.out, if_pos h])
    clear h
    go_enter Try.func100, Try.ntmps100
    go_wp2_with fail
    go_ret
    exact ⟨ret_int (by rw [HE.out]), 0, _, by rw [Go.Sort.alloc_eq_grow, Go.Sort.alloc_eq_grow, Go.Sort.grow_grow]; rfl⟩
  · have hb : ((b : Int) != (d : Int)) = true := by rw [bne_iff_ne]; omega
    have HE := Lib.hid (show cmpF x y = (d : Int) - (b : Int) from by rw [HC.out, if_neg h])
    clear h
    go_enter Try.func100, Try.ntmps100
    go_wp2_with fail
    go_ret
    exact ⟨ret_int (by rw [HE.out]), 0, _, by rw [Go.Sort.alloc_eq_grow, Go.Sort.alloc_eq_grow, Go.Sort.grow_grow]; rfl⟩
theorem sorted_turned (w : World) (g m : Nat) (d : Array FR) (os : Array Obj) : Turned (fun i => i = g) w (Go.Proofs.sortWorldK encRF 2 w g 0 m d os) := by
  refine ⟨rfl, rfl, rfl, ?_, fun k hk hs => ?_⟩
  · exact Go.Proofs.size_sortWorldK_c encRF 2 w g 0 m d os
  · unfold Go.Proofs.sortWorldK Go.Sort.grow Go.Sort.putRowK Go.Sort.putRow Go.Sort.mapBlock Go.Sort.ahead
    show (w.heap.modify g _ ++ os)[k]? = w.heap[k]?
    rw [Array.getElem?_append_left (by rw [Array.size_modify]; exact hk), Array.getElem?_modify, if_neg (fun e => hs e.symm)]
theorem whole_extract (d : Array FR) : (d.extract 0 d.size).toList = d.toList := by rw [Array.extract_size]
theorem at_idx (d : Array FR) (i : Nat) (h : i < d.size) : d[i]! = d.toList[i]'(by rw [Array.length_toList]; exact h) := by
  rw [getElem!_pos d i h, Array.getElem_toList]
theorem holds_own {w : World} {base g cap : Nat} {N : List (Nat × Nat)} (h : OwnL w base 58 2 (.slice (some ⟨g, 0, none⟩) N.length cap) (N.map rowN)) (hb : ∀ r ∈ N, r.1 + r.2 ≤ 128) : Go.Sort.HoldsK encRF 2 w g 0 (N.map toF).toArray := by
  intro t ht
  have ht' : t < N.length * 2 := by simpa using ht
  have hj : t / 2 < N.length := by omega
  rw [Go.Sort.get_flatK _ _ _ _ (by simpa using ht'), Nat.zero_add]
  have hel : ((N.map toF).toArray)[t / 2]! = toF N[t / 2] := by
    rw [getElem!_pos _ _ (by simpa using hj)]
    simp
  have hrow : (N.map rowN)[t / 2]? = some (rowN N[t / 2]) := by rw [List.getElem?_map, List.getElem?_eq_getElem hj]; rfl
  have he : encRF (toF N[t / 2]) = rowN N[t / 2] := by unfold encRF; rw [ofF_toF _ (hb _ (List.getElem_mem hj))]
  rw [hel, he]
  refine ⟨?_, h.frozen t⟩
  have hm : t = t / 2 * 2 + t % 2 := by omega
  have hlt : t % 2 < 2 := Nat.mod_lt _ (by decide)
  have hu : (rowN N[t / 2])[t % 2]? = some ((rowN N[t / 2])[t % 2]!) := by
    have hlen : (rowN N[t / 2]).length = 2 := rfl
    rw [List.getElem?_eq_getElem (by omega), getElem!_pos _ _ (by omega)]
  have := h.cell (j := t / 2) (i := t % 2) hrow hu
  rwa [← hm] at this
theorem runs_held {w : World} {g : Nat} {d : Array FR} {M : List (Nat × Nat)} (h : Go.Sort.HoldsK encRF 2 w g 0 d) (hd : d.toList.map ofF = M) (hg : g < w.heap.size) : RunsAt w w.heap.size (some ⟨g, 0, none⟩) (ints M) := by
  subst hd
  refine ⟨?_, fun _ => ⟨g, 0, rfl, hg, fun j cs hj i v hi => ?_⟩⟩
  · intro r hr
    obtain ⟨x, hx, rfl⟩ := List.mem_map.1 hr
    obtain ⟨y, hy, rfl⟩ := List.mem_map.1 hx
    have h1 := y.1.isLt
    have h2 := y.2.isLt
    show okRun ((y.1.val : Int), (y.2.val : Int))
    unfold okRun
    simp only
    omega
  · rw [ints_rows, List.map_map] at hj
    rw [List.getElem?_map] at hj
    cases hx : d.toList[j]? with
    | none => rw [hx] at hj; cases hj
    | some x =>
      rw [hx] at hj
      have hjl : j < d.toList.length := (List.getElem?_eq_some_iff.1 hx).1
      have hjs : j < d.size := by rw [← Array.length_toList]; exact hjl
      injection hj with hj
      have hcs : cs = encRF x := hj.symm
      have hil : i < cs.length := (List.getElem?_eq_some_iff.1 hi).1
      have hi2 : i < 2 := by rw [hcs] at hil; exact hil
      have hc := (h.cell (i := j) (c := i) hjs hi2).1
      have hxe : d[j]! = x := by
        rw [at_idx d j hjs]
        exact (List.getElem?_eq_some_iff.1 hx).2
      rw [hxe, ← hcs, getElem!_pos cs i hil] at hc
      rw [hc, (List.getElem?_eq_some_iff.1 hi).2]
set_option maxRecDepth 100000 in
set_option maxHeartbeats 1000000 in
theorem sort_any (g cap : Nat) (S : Nat → Bool) (w : World) (base : Nat) (hown : OwnL w base 58 2 (.slice (some ⟨g, 0, none⟩) (normS S).length cap) ((normS S).map rowN)) :
    Calls Try.prog 101 #[.slice (some ⟨g, 0, none⟩) (normS S).length cap, .func (.func 100) #[] #[]] w fun e w' => e = .returned (.tuple #[]) ∧ Turned (fun i => i = g) w w' ∧ RunsAt w' w'.heap.size (some ⟨g, 0, none⟩) (ints (sortS (normS S))) := by
  have hg : g < w.heap.size := by
    rcases hown.form with ⟨h, _⟩ | ⟨g', _, h, _, h2, _⟩
    · cases h
    · injection h with h
      injection h with h
      injection h with h
      omega
  have hbd := normS_bd S
  have hlen := normS_len S
  have hH := holds_own hown hbd
  have hds : ((normS S).map toF).toArray.size = (normS S).length := by simp
  have hdl : (((normS S).map toF).toArray.toList).map ofF = normS S := by
    show ((normS S).map toF).map ofF = normS S
    rw [List.map_map]
    conv => rhs; rw [← List.map_id (normS S)]
    exact List.map_congr_left (fun r hr => ofF_toF r (hbd r hr))
  obtain ⟨d, hd⟩ : ∃ d, ((normS S).map toF).toArray = d := ⟨_, rfl⟩
  rw [hd] at hH hds hdl
  have eg : ∀ args w, (callFunc 100 args).run Try.prog w = .ok (.enter 100 args) w := enters_of Try.func100 (by kernel_rfl) rfl
  have hcon := Go.Proofs.AnyQ.slices_SortFunc sortIv 2 Try.isAgg58 Try.sizeOf58 encRF (fun _ => rfl) (fun x v hv => by simp [encRF, rowN] at hv; rcases hv with rfl | rfl <;> rfl) cmpF sworder 100 #[] g 0 cap d w eg (fun m os dk hs x y => bigger_any x y _) hH hg (by rw [hds]; omega)
  change Calls Try.prog 101 _ _ _ at hcon
  rw [hds] at hcon
  refine hcon.mono ?_
  rintro e w' ⟨rfl, d', n, os, hp, hs, rfl⟩
  refine ⟨rfl, sorted_turned w g n d' os, ?_⟩
  have hsz : d'.size = d.size := hp.1
  refine runs_held (d := d') (Go.Proofs.holdsK_sortWorldK_c encRF 2 w g 0 d d' n os hH hg hsz) ?_ (Nat.lt_of_lt_of_le hg (Go.Proofs.size_sortWorldK_c encRF 2 w g 0 n d' os))
  refine sort_is S _ ?_ ?_
  · have h3 := hp.2.2
    rw [← hds, whole_extract d, ← hsz, whole_extract d'] at h3
    rw [← hdl]
    exact h3.map _
  · intro i j hi hj hij hlt
    rw [List.length_map, Array.length_toList] at hi hj
    have h4 := hs i j (Nat.zero_le _) hij (by omega)
    rw [at_idx d' j hj, at_idx d' i hi] at h4
    rw [List.getElem_map, List.getElem_map] at hlt
    rw [(ltF _ _).2 hlt] at h4
    cases h4
theorem sort_own (S : Nat → Bool) (w : World) (base : Nat) (v : Value) (hown : OwnL w base 58 2 v ((normS S).map rowN)) :
    ∃ A c, v = .slice A (sortS (normS S)).length c ∧ Calls Try.prog 101 #[.slice A (sortS (normS S)).length c, .func (.func 100) #[] #[]] w fun e w' => e = .returned (.tuple #[]) ∧ Turned (fun i => base ≤ i) w w' ∧ RunsAt w' w'.heap.size A (ints (sortS (normS S))) := by
  have hlen : (sortS (normS S)).length = (normS S).length := (sortS_perm _ (normS_cnt S) (normS_asc S)).length_eq.symm
  rcases hown.form with ⟨rfl, h0⟩ | ⟨g, cap, rfl, hg, hg2, _⟩
  · have hn0 : (normS S).length = 0 := by have := congrArg List.length h0; simpa using this
    have hm0 : (sortS (normS S)).length = 0 := by omega
    refine ⟨none, 0, by rw [hm0], ?_⟩
    rw [hm0]
    have hcon := Go.Proofs.AnyF.slices_SortFunc_none sortIv none 0 (.func (.func 100) #[] #[]) w
    change Calls Try.prog 101 _ _ _ at hcon
    refine hcon.mono ?_
    rintro e w' ⟨rfl, rfl⟩
    refine ⟨rfl, Turned.refl _ _, ?_⟩
    rw [List.eq_nil_of_length_eq_zero hm0]
    exact ⟨fun r hr => (List.not_mem_nil hr).elim, fun h => absurd h (by decide)⟩
  · rw [List.length_map] at hown ⊢
    refine ⟨some ⟨g, 0, none⟩, cap, by rw [hlen], ?_⟩
    rw [hlen]
    refine (sort_any g cap S w base hown).mono ?_
    rintro e w' ⟨rfl, ht, hr⟩
    exact ⟨rfl, ht.mono (fun k _ hk => by subst hk; exact hg), hr⟩
end Go.Proofs.Ytnlaogneceanoaa
namespace Go.Proofs.Ytnlaogneceanoaa
set_option linter.unusedVariables false
set_option linter.unusedSimpArgs false
set_option linter.unusedSectionVars false
open Go.RowKit
/-- The runs that are allocated, and the error. -/
def allocS (S : Nat → Bool) (n most : Int) : List (Nat × Nat) × Int :=
  if n < 1 ∨ most < 1 then ([], 1)
  else if (bestF n (normS S)).2 ≠ 0 then ([((bestF n (normS S)).1, n.toNat)], 0)
  else if n.toNat - cntL (sortS (normS S)) ≠ 0 ∨ most < ((takeR (sortS (normS S)) n.toNat).length : Int) then ([], 14)
  else (takeR (sortS (normS S)) n.toNat, 0)
def AllocR (w : World) (d : List (Nat × Nat) × Int) (e : Ending) (w' : World) : Prop := ∃ v, e = .returned (.tuple #[v, .int .i64 d.2]) ∧ OwnL w' w.heap.size 58 2 v (d.1.map rowN) ∧ Grew w w'
theorem OwnL.one {w : World} {base n : Nat} {r : Nat × Nat} (hb : base ≤ w.heap.size) (hn : n = w.heap.size) : OwnL (w.alloc (.cells #[.int .i64 (r.1 : Int), .int .i64 (r.2 : Int)] 58)) base 58 2 (.slice (some ⟨n, 0, none⟩) 1 1) ([r].map rowN) := by
  subst hn
  exact ⟨by simp [rowN], World.ownsRow_lit w _ 1 hb (by decide) (by simp)⟩
section
variable (A : Option Addr) (c : Nat) (l : List (Int × Int)) (w : World) (B : Nat) (hB : B ≤ w.heap.size) (hl : l.length ≤ 1000000) (hr : RunsAt w B A l) (n : Int) (n0 : -9223372036854775808 ≤ n) (n1 : n ≤ 9223372036854775807) (most : Int)
include hB hl hr n0 n1
set_option maxRecDepth 100000 in
set_option maxHeartbeats 4000000 in
theorem alloc_any : Calls Try.prog 66 #[.slice A l.length c, .int .i64 n, .int .i64 most] w (AllocR w (allocS (memS l) n most)) := by
  by_cases h1 : n < 1
  · have HE := Lib.hid (show allocS (memS l) n most = ([], 1) from by unfold allocS; rw [if_pos (.inl h1)])
    go_enter Try.func66, Try.ntmps66
    go_wp2_with fail
    go_returns
    rw [HE.out]
    exact ⟨_, rfl, OwnL.nil _ _ _ _, by (repeat' first | (with_reducible exact Grew.refl _) | (with_reducible assumption) | (with_reducible refine Grew.alloc ?_ _) | (with_reducible refine Grew.drew ?_) | (with_reducible refine Grew.drewN ?_ _) | (with_reducible refine Grew.setRow ?_ (by first | (simp; done) | (simp; omega) | omega) _) | (with_reducible refine Grew.setCell ?_ (by first | (simp; done) | (simp; omega) | omega) _) | ((with_reducible apply Grew.trans); rotate_left; (with_reducible assumption)) | ((with_reducible apply Grew.turn); rotate_left; (with_reducible assumption); (focus (intro i hi; first | omega | (simp at hi; omega)))) | fail)⟩
  by_cases h2 : most < 1
  · have HE := Lib.hid (show allocS (memS l) n most = ([], 1) from by unfold allocS; rw [if_pos (.inr h2)])
    go_enter Try.func66, Try.ntmps66
    go_wp2_with fail
    go_returns
    rw [HE.out]
    exact ⟨_, rfl, OwnL.nil _ _ _ _, by (repeat' first | (with_reducible exact Grew.refl _) | (with_reducible assumption) | (with_reducible refine Grew.alloc ?_ _) | (with_reducible refine Grew.drew ?_) | (with_reducible refine Grew.drewN ?_ _) | (with_reducible refine Grew.setRow ?_ (by first | (simp; done) | (simp; omega) | omega) _) | (with_reducible refine Grew.setCell ?_ (by first | (simp; done) | (simp; omega) | omega) _) | ((with_reducible apply Grew.trans); rotate_left; (with_reducible assumption)) | ((with_reducible apply Grew.turn); rotate_left; (with_reducible assumption); (focus (intro i hi; first | omega | (simp at hi; omega)))) | fail)⟩
  obtain ⟨nn, rfl⟩ : ∃ nn : Nat, n = (nn : Int) := ⟨n.toNat, by omega⟩
  have HS := Lib.hid (show allocS (memS l) (nn : Int) most = if (bestF (nn : Int) (normS (memS l))).2 ≠ 0 then ([((bestF (nn : Int) (normS (memS l))).1, nn)], 0) else if nn - cntL (sortS (normS (memS l))) ≠ 0 ∨ most < ((takeR (sortS (normS (memS l))) nn).length : Int) then ([], 14) else (takeR (sortS (normS (memS l))) nn, 0) from by unfold allocS; rw [if_neg (fun h => h.elim h1 h2)]; rfl)
  have hB0 := best_any A c l w B hB hl hr (nn : Int) n0 n1
  have hbb : bestS (memS l) (nn : Int) = if (bestF (nn : Int) (normS (memS l))).2 = 0 then ((0, 0), false) else ((((bestF (nn : Int) (normS (memS l))).1 : Int), (nn : Int)), true) := by
    unfold bestS
    by_cases hz : (bestF (nn : Int) (normS (memS l))).2 = 0
    · rw [if_pos (.inr hz), if_pos hz]
    · rw [if_neg (fun h => h.elim h1 hz), if_neg hz]
  rw [hbb] at hB0
  have hbd := normS_bd (memS l)
  have hfb := bestF_bd (nn : Int) (normS (memS l)) 128 hbd
  have hfm := bestF_mem (nn : Int) (normS (memS l))
  by_cases hz : (bestF (nn : Int) (normS (memS l))).2 = 0
  rotate_left
  · rw [if_neg hz] at hB0
    have hnl : nn ≤ 128 := by
      rcases hfm with h | ⟨_, h⟩
      · rw [h] at hz; exact absurd rfl hz
      · omega
    have HE := Lib.hid (show allocS (memS l) (nn : Int) most = ([((bestF (nn : Int) (normS (memS l))).1, nn)], 0) from by rw [HS.out, if_pos hz])
    generalize bestF (nn : Int) (normS (memS l)) = bb at *
    obtain ⟨bf, bc⟩ := bb
    simp only at hB0 HE hfb
    have HB0 := Lib.hid hB0
    clear hbb hB0 HS hz hfm
    go_enter Try.func66, Try.ntmps66
    go_wp2_with fail
    refine HB0.out.mono ?_
    rintro e w1 ⟨rfl, g1⟩
    have hws := g1.size
    go_wp2_with fail
    go_returns
    rw [HE.out]
    refine ⟨_, rfl, OwnL.one (r := (bf, nn)) ?_ ?_, by (repeat' first | (with_reducible exact Grew.refl _) | (with_reducible assumption) | (with_reducible refine Grew.alloc ?_ _) | (with_reducible refine Grew.drew ?_) | (with_reducible refine Grew.drewN ?_ _) | (with_reducible refine Grew.setRow ?_ (by first | (simp; done) | (simp; omega) | omega) _) | (with_reducible refine Grew.setCell ?_ (by first | (simp; done) | (simp; omega) | omega) _) | ((with_reducible apply Grew.trans); rotate_left; (with_reducible assumption)) | ((with_reducible apply Grew.turn); rotate_left; (with_reducible assumption); (focus (intro i hi; first | omega | (simp at hi; omega)))) | fail)⟩
    · simp; omega
    · simp
  rw [if_pos hz] at hB0
  have HS2 := Lib.hid (show allocS (memS l) (nn : Int) most = if nn - cntL (sortS (normS (memS l))) ≠ 0 ∨ most < ((takeR (sortS (normS (memS l))) nn).length : Int) then ([], 14) else (takeR (sortS (normS (memS l))) nn, 0) from by rw [HS.out, if_neg (fun h => h hz)])
  have HB0 := Lib.hid hB0
  have HC := Lib.hid (fun w' (g : Grew w w') => normal_any A c l w' B (Nat.le_trans hB g.size) hl (hr.keep hB g))
  have HSRT := Lib.hid (fun w base v h => sort_own (memS l) w base v h)
  have hml : (sortS (normS (memS l))).length ≤ 128 := by rw [← (sortS_perm _ (normS_cnt (memS l)) (normS_asc (memS l))).length_eq]; exact normS_len _
  have hmb : ∀ r ∈ sortS (normS (memS l)), r.1 + r.2 ≤ 128 := fun r hr => hbd r ((mem_sortS _ (normS_cnt (memS l)) r).1 hr)
  generalize sortS (normS (memS l)) = M at *
  have HMB := Lib.hid hmb
  clear hbb hB0 HS hz hfm hfb hr hbd hmb
  go_enter Try.func66, Try.ntmps66
  go_wp2_with fail
  refine HB0.out.mono ?_
  rintro e w1 ⟨rfl, g1⟩
  have hws := g1.size
  go_wp2_with fail
  refine (HC.out _ (by (repeat' first | (with_reducible exact Grew.refl _) | (with_reducible assumption) | (with_reducible refine Grew.alloc ?_ _) | (with_reducible refine Grew.drew ?_) | (with_reducible refine Grew.drewN ?_ _) | (with_reducible refine Grew.setRow ?_ (by first | (simp; done) | (simp; omega) | omega) _) | (with_reducible refine Grew.setCell ?_ (by first | (simp; done) | (simp; omega) | omega) _) | ((with_reducible apply Grew.trans); rotate_left; (with_reducible assumption)) | ((with_reducible apply Grew.turn); rotate_left; (with_reducible assumption); (focus (intro i hi; first | omega | (simp at hi; omega)))) | fail))).mono ?_
  rintro e w2 ⟨v, rfl, hown, g2⟩
  have hG : Grew w w2 := by (repeat' first | (with_reducible exact Grew.refl _) | (with_reducible assumption) | (with_reducible refine Grew.alloc ?_ _) | (with_reducible refine Grew.drew ?_) | (with_reducible refine Grew.drewN ?_ _) | (with_reducible refine Grew.setRow ?_ (by first | (simp; done) | (simp; omega) | omega) _) | (with_reducible refine Grew.setCell ?_ (by first | (simp; done) | (simp; omega) | omega) _) | ((with_reducible apply Grew.trans); rotate_left; (with_reducible assumption)) | ((with_reducible apply Grew.turn); rotate_left; (with_reducible assumption); (focus (intro i hi; first | omega | (simp at hi; omega)))) | fail)
  obtain ⟨A', c', hv, hsrt⟩ := HSRT.out _ _ _ hown
  subst hv
  have hwb : w.heap.size ≤ w1.heap.size + 1 := by omega
  clear hown HC HB0 g1 g2 HSRT
  go_wp2_with fail
  refine hsrt.mono ?_
  rintro e w3 ⟨rfl, ht, hr3⟩
  replace hG := hG.turn ht (fun i hi => by simp at hi; omega)
  have HR := Lib.hid hr3
  have hgs := hG.size
  clear hsrt ht hr3
  go_wp2_with fail
  go_loopg [1, 12, 37] M.length (fun gk nv ov i wr => ∃ k : Nat, k ≤ M.length ∧ gk = M.length - k ∧ i = .int .i64 k ∧ nv = .int .i64 ((nn - cntL (M.take k) : Nat) : Int) ∧ OwnL wr w3.heap.size 58 2 ov ((takeR (M.take k) nn).map rowN) ∧ Grew w3 wr)
  case atStart => exact ⟨0, by omega, by omega, rfl, by simp [cntL], OwnL.nil _ _ _ _, Grew.refl _⟩
  case round =>
    obtain ⟨k, hk, hgk, rfl, rfl, hown, hg⟩ := hrel
    have HGK := Lib.hid hgk
    clear hgk
    have htl := takeR_len (M.take k) nn
    have htk : (M.take k).length ≤ 128 := Nat.le_trans (List.length_take_le _ _) (by omega)
    have hws3 := hg.size
    obtain ⟨Av, cv, hv, hcv1, hcv2, -⟩ := hown.listAt
    rw [List.length_map] at hv hcv1
    subst hv
    by_cases hlt : k < M.length
    · obtain ⟨b, off, rfl, hb, x0, x1⟩ := runs_nat (HR.out.keep (Nat.le_refl _) hg) hlt
      have hbs : b < wr.heap.size := by omega
      have hrb := HMB.out _ (List.getElem_mem hlt)
      have HST := Lib.hid (takeR_snoc M k nn hlt)
      have HCN := Lib.hid (cntL_snoc M k hlt)
      have HTT := Lib.hid (fun h => takeR_stop (M.drop k) (M.take k) nn h)
      generalize M[k] = r at *
      obtain ⟨rf, rc⟩ := r
      simp only at x0 x1 hrb
      obtain ⟨m, hm⟩ : ∃ m, nn - cntL (M.take k) = m := ⟨_, rfl⟩
      rw [hm] at HST
      rw [hm]
      by_cases hm0 : m = 0
      · have HTT2 := HTT.out (by omega)
        rw [List.take_append_drop] at HTT2
        have hz0 : nn - cntL M = 0 := by
          have h9 := cntL_append (M.take k) (M.drop k)
          rw [List.take_append_drop] at h9
          omega
        rw [← HTT2] at hown htl
        have hownx := hown.alloc (.cells #[.int .i64 (rf : Int), .int .i64 (rc : Int)] 58)
        have hgx := hg.alloc (.cells #[.int .i64 (rf : Int), .int .i64 (rc : Int)] 58)
        have hb0 : ((m : Int) == 0) = true := beq_iff_eq.2 (by omega)
        rw [← HTT2]
        subst hm0
        clear HTT2 hm
        by_cases hl2 : most < ((takeR M nn).length : Int)
        · have HE := Lib.hid (show allocS (memS l) (nn : Int) most = ([], 14) from by rw [HS2.out]; exact if_pos (.inr hl2))
          go_wp2_with fail
          go_returns
          rw [HE.out]
          exact ⟨_, rfl, OwnL.nil _ _ _ _, hG.trans hgx⟩
        · have HE := Lib.hid (show allocS (memS l) (nn : Int) most = (takeR M nn, 0) from by rw [HS2.out]; exact if_neg (fun h => h.elim (fun h => h hz0) hl2))
          go_wp2_with fail
          go_returns
          rw [HE.out]
          exact ⟨_, rfl, hownx.mono hgs, hG.trans hgx⟩
      · have hb0 : ((m : Int) == 0) = false := beq_eq_false_iff_ne.2 (by omega)
        have HSN := Lib.hid (HST.out.trans (by rw [if_neg hm0]))
        obtain ⟨q, hq⟩ : ∃ q, min rc m = q := ⟨_, rfl⟩
        have hqi : min (rc : Int) (m : Int) = (q : Int) := by omega
        have hqm : q ≤ m := by omega
        have hqr : q ≤ rc := by omega
        have hmn : m ≤ nn := by omega
        have hmp : 0 < m := by omega
        rw [hq] at HSN
        have hown2 := hown.alloc (.cells #[.int .i64 (rf : Int), .int .i64 (q : Int)] 58)
        have hg2 := hg.alloc (.cells #[.int .i64 (rf : Int), .int .i64 (q : Int)] 58)
        have hnext : nn - cntL (M.take (k + 1)) = m - q := by rw [HCN.out]; show nn - (cntL (M.take k) + rc) = _; omega
        have HNX := Lib.hid hnext
        clear hnext hm0 hm HTT HCN hq
        go_wp2_with (at_builtin; (try rw [hqi]); refine wpList_push rfl _ _ 22 rfl w3.heap.size 58 2 16 _ Try.underlying22 info_run rfl (by decide) (wr.alloc (.cells #[.int .i64 (rf : Int), .int .i64 (q : Int)] 58)) _ ((takeR (M.take k) nn).map rowN) (rowN (rf, q)) (by rfl) rfl rfl hown2 (by first | rfl | (simp; done)) rfl rfl (by rw [List.length_map]; omega) (by rw [List.length_map]; omega) hg2.size ?_; intro v' w5 hown3 hgr hbk hsz)
        go_roundg (M.length - (k + 1))
        case measure => rw [HGK.out]; omega
        case rel => exact ⟨k + 1, by omega, by omega, by go_num, by rw [HNX.out]; go_num, by rw [HSN.out, List.map_append]; exact hown3, hgr _ hg2 (Nat.le_refl _)⟩
    · obtain rfl : k = M.length := by omega
      rw [List.take_length] at hown htl ⊢
      have hownx := hown
      have hgx := hg
      by_cases hz0 : nn - cntL M = 0
      · rw [hz0]
        by_cases hl2 : most < ((takeR M nn).length : Int)
        · have HE := Lib.hid (show allocS (memS l) (nn : Int) most = ([], 14) from by rw [HS2.out]; exact if_pos (.inr hl2))
          go_wp2_with fail
          go_returns
          rw [HE.out]
          exact ⟨_, rfl, OwnL.nil _ _ _ _, hG.trans hgx⟩
        · have HE := Lib.hid (show allocS (memS l) (nn : Int) most = (takeR M nn, 0) from by rw [HS2.out]; exact if_neg (fun h => h.elim (fun h => h hz0) hl2))
          go_wp2_with fail
          go_returns
          rw [HE.out]
          exact ⟨_, rfl, hownx.mono hgs, hG.trans hgx⟩
      · have HE := Lib.hid (show allocS (memS l) (nn : Int) most = ([], 14) from by rw [HS2.out]; exact if_pos (.inl hz0))
        generalize nn - cntL M = m at *
        have hm1 : 0 < m := by omega
        go_wp2_with fail
        go_returns
        rw [HE.out]
        exact ⟨_, rfl, OwnL.nil _ _ _ _, hG.trans hgx⟩
end
end Go.Proofs.Ytnlaogneceanoaa
namespace Go.Proofs.Ytnlaogneceanoaa
set_option linter.unusedVariables false
set_option linter.unusedSimpArgs false
set_option linter.unusedSectionVars false
open Go.RowKit
theorem RunsAt.wide {w : World} {B B' : Nat} {A : Option Addr} {l : List (Int × Int)} (h : RunsAt w B A l) (hB : B ≤ B') : RunsAt w B' A l := ⟨h.1, h.2.mono hB⟩
def runUp (S : Nat → Bool) : Nat → Nat → Nat
  | _, 0 => 0
  | p, n + 1 => if S p = true then runUp S (p + 1) n + 1 else 0
theorem runUp_is (S : Nat → Bool) : ∀ (n p k : Nat), k ≤ n → (∀ j, j < k → S (p + j) = true) → (k = n ∨ S (p + k) = false) → runUp S p n = k := by
  intro n
  induction n with
  | zero =>
    intro p k hk _ _
    have : k = 0 := by omega
    subst this
    rfl
  | succ n ih =>
    intro p k hk hall hend
    rw [runUp]
    cases k with
    | zero =>
      rcases hend with h | h
      · omega
      · rw [Nat.add_zero] at h
        rw [if_neg (by rw [h]; simp)]
    | succ k =>
      rw [if_pos (by have := hall 0 (by omega); simpa using this)]
      rw [ih (p + 1) k (by omega) (fun j hj => by have := hall (j + 1) (by omega); rwa [show p + (j + 1) = p + 1 + j by omega] at this) (hend.imp (fun h => by omega) (fun h => by rwa [show p + (k + 1) = p + 1 + k by omega] at h))]
def extF (L : List (Nat × Nat)) (f : List (Int × Int)) : List (Nat × Nat) := normS fun i => memS f i && !memS (ints L) i
def extL (I : List (Nat × Nat)) (x : Nat × Nat) (k : Nat) : List (Nat × Nat) := I ++ [(x.1, x.2 + k)]
def extA (I : List (Nat × Nat)) (x : Nat × Nat) (f : List (Int × Int)) (nn k : Nat) : List (Nat × Nat) × Int :=
  allocS (memS (ints (extF (extL I x k) (ints (extF (I ++ [x]) f))))) ((nn - k : Nat) : Int) (16 - ((I.length : Int) + 1))
def extG (I : List (Nat × Nat)) (x : Nat × Nat) (f : List (Int × Int)) (nn k : Nat) : List (Nat × Nat) × Int :=
  if nn - k = 0 then (extL I x k, 0)
  else if 16 - ((I.length : Int) + 1) < 1 then ([], 14)
  else if (extA I x f nn k).2 ≠ 0 then ([], (extA I x f nn k).2)
  else (joinS (ints (extL I x k ++ (extA I x f nn k).1)), 0)
def extK (L : List (Nat × Nat)) (f : List (Int × Int)) (nn : Nat) : Nat := runUp (memS (ints (extF L f))) ((L.getLastD (0, 0)).1 + (L.getLastD (0, 0)).2) nn
/-- The extended extents, and the error. -/
def extS (e f : List (Int × Int)) (n : Int) : List (Nat × Nat) × Int :=
  if n < 1 ∨ joinS e = [] then ([], 1) else extG (joinS e).dropLast ((joinS e).getLastD (0, 0)) f n.toNat (extK (joinS e) f n.toNat)
theorem extS_eq (e f : List (Int × Int)) (nn : Nat) (I : List (Nat × Nat)) (x : Nat × Nat) (k : Nat) (h : joinS e = I ++ [x]) (hn : 1 ≤ nn) (hk : k ≤ nn) (hall : ∀ j, j < k → memS (ints (extF (I ++ [x]) f)) (x.1 + x.2 + j) = true) (hend : k = nn ∨ memS (ints (extF (I ++ [x]) f)) (x.1 + x.2 + k) = false) :
    extS e f (nn : Int) = extG I x f nn k := by
  unfold extS extK
  rw [h, if_neg (fun hh => hh.elim (fun hh => by omega) (fun hh => by simp at hh)), List.dropLast_concat, show (I ++ [x]).getLastD (0, 0) = x from by simp, Int.toNat_natCast, runUp_is _ nn _ k hk hall hend]
theorem rowN_len (k : List (Nat × Nat)) : ∀ r ∈ k.map rowN, r.length = 2 := by
  intro r hr
  obtain ⟨x, _, rfl⟩ := List.mem_map.1 hr
  rfl
theorem rowN_one (k : List (Nat × Nat)) : ∀ r ∈ k.map rowN, r.all (·.oneCell') = true := by
  intro r hr
  obtain ⟨x, _, rfl⟩ := List.mem_map.1 hr
  rfl
theorem sort_bd (S : Nat → Bool) : ∀ r ∈ sortS (normS S), r.1 + r.2 ≤ 128 := fun r hr => normS_bd S r ((mem_sortS _ (normS_cnt S) r).1 hr)
theorem sort_len (S : Nat → Bool) : (sortS (normS S)).length ≤ 128 := by rw [← (sortS_perm _ (normS_cnt S) (normS_asc S)).length_eq]; exact normS_len _
theorem alloc_bd (S : Nat → Bool) (n most : Int) : ∀ r ∈ (allocS S n most).1, r.1 + r.2 ≤ 128 := by
  unfold allocS
  split
  · intro r hr; cases hr
  · rename_i h0
    split
    · rename_i h1
      intro r hr
      rw [List.mem_singleton.1 hr]
      rcases bestF_mem n (normS S) with h | ⟨hm, h⟩
      · rw [h] at h1; exact absurd rfl h1
      · have := normS_bd S _ hm
        show (bestF n (normS S)).1 + n.toNat ≤ 128
        omega
    · split
      · intro r hr; cases hr
      · exact takeR_bd 128 _ _ (sort_bd S)
theorem alloc_len (S : Nat → Bool) (n most : Int) : (allocS S n most).1.length ≤ 128 := by
  unfold allocS
  split
  · exact Nat.zero_le _
  · split
    · show 1 ≤ 128; omega
    · split
      · exact Nat.zero_le _
      · exact Nat.le_trans (takeR_len _ _) (sort_len S)
theorem ext_bd (I : List (Nat × Nat)) (x : Nat × Nat) (F : List (Int × Int)) (k : Nat) (hb : ∀ r ∈ I ++ [x], r.1 + r.2 ≤ 128) (hall : ∀ j, j < k → memS F (x.1 + x.2 + j) = true) : ∀ r ∈ extL I x k, r.1 + r.2 ≤ 128 := by
  intro r hr
  unfold extL at hr
  rcases List.mem_append.1 hr with hr | hr
  · exact hb r (List.mem_append_left _ hr)
  · rw [List.mem_singleton.1 hr]
    have hx := hb x (List.mem_append_right _ (List.mem_singleton.2 rfl))
    show x.1 + (x.2 + k) ≤ 128
    cases k with
    | zero => omega
    | succ k => have := memS_lt _ _ (hall k (by omega)); omega
section
variable (A1 A2 : Option Addr) (c1 c2 : Nat) (l1 l2 : List (Int × Int)) (w : World) (B : Nat) (hB : B ≤ w.heap.size) (hl1 : l1.length ≤ 1000) (hl2 : l2.length ≤ 1000000) (hr1 : RunsAt w B A1 l1) (hr2 : RunsAt w B A2 l2) (n : Int) (n0 : -9223372036854775808 ≤ n) (n1 : n ≤ 9223372036854775807)
include hB hl1 hl2 hr1 hr2 n0 n1
set_option maxRecDepth 100000 in
set_option maxHeartbeats 4000000 in
theorem extend_any : Calls Try.prog 86 #[.slice A1 l1.length c1, .slice A2 l2.length c2, .int .i64 n] w (AllocR w (extS l1 l2 n)) := by
  have HJ := Lib.hid (join_any A1 c1 l1 w B hB (by omega) hr1)
  have hjl := joinS_len l1
  have hjb := joinS_bd l1
  by_cases h1 : n < 1
  · have HE := Lib.hid (show extS l1 l2 n = ([], 1) from by unfold extS; rw [if_pos (.inl h1)])
    go_enter Try.func86, Try.ntmps86
    go_wp2_with fail
    refine HJ.out.mono ?_
    rintro e w1 ⟨v, rfl, hown, g1⟩
    go_wp2_with fail
    go_returns
    rw [HE.out]
    exact ⟨_, rfl, OwnL.nil _ _ _ _, g1⟩
  obtain ⟨nn, rfl⟩ : ∃ nn : Nat, n = (nn : Int) := ⟨n.toNat, by omega⟩
  rcases last_cases (joinS l1) with h0 | ⟨I, x, hL⟩
  · have HE := Lib.hid (show extS l1 l2 (nn : Int) = ([], 1) from by unfold extS; rw [if_pos (.inr h0)])
    go_enter Try.func86, Try.ntmps86
    go_wp2_with fail
    refine HJ.out.mono ?_
    rintro e w1 ⟨v, rfl, hown, g1⟩
    rw [h0] at hown
    obtain ⟨A', c', hv, -⟩ := hown.listAt
    subst hv
    go_wp2_with fail
    go_returns
    rw [HE.out]
    exact ⟨_, rfl, OwnL.nil _ _ _ _, g1⟩
  have HEQ := Lib.hid (fun k h2 h3 h4 => extS_eq l1 l2 nn I x k hL (by omega) h2 h3 h4)
  have HBD := Lib.hid (fun k h => ext_bd I x (ints (extF (I ++ [x]) l2)) k (by rw [← hL]; exact hjb) h)
  rw [hL] at hjl hjb HJ
  have HJB := Lib.hid hjb
  have hIl : I.length + 1 ≤ 1000 := by simp at hjl; omega
  have HMIN := Lib.hid (fun (w1 : World) (g1 : Grew w w1) A c (h : RunsAt w1 w1.heap.size A (ints (I ++ [x]))) => minus_any A2 A c2 c l2 (ints (I ++ [x])) w1 w1.heap.size (Nat.le_refl _) hl2 (by rw [ints_len]; simp; omega) (RunsAt.wide (hr2.keep hB g1) (Nat.le_trans hB g1.size)) h)
  clear hr1 hr2 hjl hjb hL
  go_enter Try.func86, Try.ntmps86
  go_wp2_with fail
  refine HJ.out.mono ?_
  rintro e w1 ⟨v, rfl, hown, g1⟩
  obtain ⟨A', c', hv', hrL, _, _, hA'⟩ := own_runs2 hown (fun r hr => Nat.le_trans (HJB.out r hr) (by omega))
  rcases hown.form with ⟨_, hn0⟩ | ⟨g, cap, hv, hg1, hg2, _, _⟩
  · exfalso; have := congrArg List.length hn0; simp at this
  rw [List.length_map, List.length_append, List.length_singleton] at hv
  rw [List.length_append, List.length_singleton, hv] at hv'
  injection hv' with e1 e2 e3
  subst e1; subst e3; subst hv
  have HM2 := Lib.hid (HMIN.out w1 g1 _ cap hrL)
  rw [ints_len, List.length_append, List.length_singleton] at HM2
  clear HMIN HJ hA' e2
  have hz0 : ((I.length : Int) + 1 == 0) = false := beq_eq_false_iff_ne.2 (by omega)
  have hnd : decide ((nn : Int) < 1) = false := decide_eq_false (by omega)
  have h1p : 1 ≤ nn := by omega
  go_wp2_with fail
  refine HM2.out.mono ?_
  rintro e w2 ⟨v2, rfl, hown2, g2⟩
  rw [show (normS fun i => memS l2 i && !memS (ints (I ++ [x])) i) = extF (I ++ [x]) l2 from rfl] at hown2
  obtain ⟨F, hF⟩ : ∃ F, extF (I ++ [x]) l2 = F := ⟨_, rfl⟩
  have hFb : ∀ r ∈ extF (I ++ [x]) l2, r.1 + r.2 ≤ 128 := normS_bd _
  have hFl : (extF (I ++ [x]) l2).length ≤ 128 := normS_len _
  rw [hF] at hown2 hFb hFl
  rw [hF] at HBD HEQ
  have HF := Lib.hid hF
  obtain ⟨AF, cF, hvF, hrF, _, _, hAF⟩ := own_runs2 hown2 (fun r hr => Nat.le_trans (hFb r hr) (by omega))
  subst hvF
  have HRF := Lib.hid hrF
  have HAF := Lib.hid (show ∀ b off, AF = some ⟨b, off, none⟩ → ¬ b = g from fun b off e => by have := (hAF b off e).1; omega)
  have hownL := hown.grew g2
  have hG := g1.trans g2
  have hg2' : g < w2.heap.size := by have := g2.size; omega
  obtain ⟨xf, xc⟩ := x
  clear HM2 hF hown2 hrF hAF hown hrL g1 g2
  go_wp2_with fail
  go_loopg [2] nn (fun gk nv wr => ∃ k : Nat, k ≤ nn ∧ gk = nn - k ∧ nv = .int .i64 ((nn - k : Nat) : Int) ∧ (∀ j, j < k → memS (ints F) (xf + xc + j) = true) ∧ OwnL wr w.heap.size 58 2 (.slice (some ⟨g, 0, none⟩) (I.length + 1) cap) ((I ++ [(xf, xc + k)]).map rowN) ∧ Turned (fun i => i = g) w2 wr)
  case atStart => exact ⟨0, by omega, by omega, by simp, fun j hj => by omega, hownL, Turned.refl _ _⟩
  case round =>
    obtain ⟨k, hk, hgk, rfl, hall, hownk, ht⟩ := hrel
    have HGK := Lib.hid hgk
    clear hgk
    have hrow : ((I ++ [(xf, xc + k)]).map rowN)[I.length]? = some (rowN (xf, xc + k)) := by simp
    have y0 : wr.cell? ⟨g, I.length * 2, none⟩ = some (.int .i64 (xf : Int)) := hownk.cell (i := 0) hrow rfl
    have y1 : wr.cell? ⟨g, I.length * 2 + 1, none⟩ = some (.int .i64 ((xc : Int) + (k : Int))) := by have := hownk.cell (i := 1) hrow rfl; rw [this]; rfl
    have yf1 := hownk.frozen (I.length * 2 + 1)
    have hbk : xf + (xc + k) ≤ 128 := HBD.out k hall (xf, xc + k) (by simp [extL])
    have hts := ht.size
    have hgw : g < wr.heap.size := by omega
    have hrF : RunsAt wr wr.heap.size AF (ints F) := RunsAt.wide (HRF.out.turned (Nat.le_refl _) ht HAF.out) hts
    have hIN : inT (ints F) ((xf : Int) + ((xc : Int) + (k : Int))) = memS (ints F) (xf + xc + k) := by rw [show (xf : Int) + ((xc : Int) + (k : Int)) = ((xf + xc + k : Nat) : Int) by omega, inT_nat]
    have hw : IntKind.i64.wrap ((xf : Int) + ((xc : Int) + (k : Int))) = (xf : Int) + ((xc : Int) + (k : Int)) := by rw [IntKind.wrap_i64]; omega
    obtain ⟨m, hm⟩ : ∃ m, nn - k = m := ⟨_, rfl⟩
    rw [hm]
    have HALL := Lib.hid hall
    have HOWN := Lib.hid hownk
    have HT := Lib.hid ht
    have HRK := Lib.hid hrF
    have HROW := Lib.hid hrow
    have HINX := Lib.hid hIN
    clear hall hownk ht hrF hrow hIN
    by_cases hm0 : m = 0
    · have hkn : k = nn := by omega
      subst hm0
      have HE := Lib.hid (show extS l1 l2 (nn : Int) = (extL I (xf, xc) k, 0) from by rw [HEQ.out k hk HALL.out (.inl hkn)]; unfold extG; rw [if_pos hm])
      have hGx : Grew w wr := hG.turn HT.out (fun i hi => by omega)
      have HGX := Lib.hid hGx
      clear hm hkn hGx
      go_wp2_with fail
      refine wp_region_R [] (fun w' : World => w'.cell? ⟨g, I.length * 2, none⟩ = some (.int .i64 (xf : Int)) ∧ w'.cell? ⟨g, I.length * 2 + 1, none⟩ = some (.int .i64 ((xc : Int) + (k : Int)))) (by kernel_rfl) ?_
      have hS := (show (fun w' : World => w'.cell? ⟨g, I.length * 2, none⟩ = some (.int .i64 (xf : Int)) ∧ w'.cell? ⟨g, I.length * 2 + 1, none⟩ = some (.int .i64 ((xc : Int) + (k : Int)))) wr.drew from ⟨y0, y1⟩)
      refine wpAnyR_takeQ (i := 0) (v := ?_) (some 33) rfl rfl (by kernel_rfl) (by kernel_rfl) (by kernel_rfl) (by kernel_rfl) (fun _ _ _ h => h) (Or.inl ⟨by rfl, ?_⟩) ?_
      rotate_left
      focus (intro wS hSw; (try dsimp only at hSw); go_simp; (try with_reducible rfl); (try (first | (rw [if_pos (by omega)]; (try go_simp); (try with_reducible rfl)) | (rw [if_neg (by omega)]; (try go_simp); (try with_reducible rfl)))))
      try simp only [Act.put, zA, zB, zC]
      refine wpAnyR_takeQ (i := 1) (v := ?_) (some 34) rfl rfl (by kernel_rfl) (by kernel_rfl) (by kernel_rfl) (by kernel_rfl) (fun _ _ _ h => h) (Or.inl ⟨by rfl, ?_⟩) ?_
      rotate_left
      focus (intro wS hSw; (try dsimp only at hSw); go_simp; (try with_reducible rfl); (try (first | (rw [if_pos (by omega)]; (try go_simp); (try with_reducible rfl)) | (rw [if_neg (by omega)]; (try go_simp); (try with_reducible rfl)))))
      try simp only [Act.put, zA, zB, zC]
      refine wpAnyR_takeQ (i := 2) (v := ?_) (some 35) rfl rfl (by kernel_rfl) (by kernel_rfl) (by kernel_rfl) (by kernel_rfl) (fun _ _ _ h => h) (Or.inl ⟨by rfl, ?_⟩) ?_
      rotate_left
      focus (intro wS hSw; (try dsimp only at hSw); go_simp; (try with_reducible rfl); (try (first | (rw [if_pos (by omega)]; (try go_simp); (try with_reducible rfl)) | (rw [if_neg (by omega)]; (try go_simp); (try with_reducible rfl)))))
      try simp only [Act.put, zA, zB, zC]
      refine wpAnyR_takeQ (i := 3) (v := undef) (some 36) rfl rfl (by kernel_rfl) (by kernel_rfl) (by kernel_rfl) (by kernel_rfl) (fun _ _ _ h => h) (Or.inr ⟨by rfl, rfl⟩) ?_
      try simp only [Act.put, zA, zB, zC]
      refine wpAnyR_takeQ (i := 4) (v := undef) (some 37) rfl rfl (by kernel_rfl) (by kernel_rfl) (by kernel_rfl) (by kernel_rfl) (fun _ _ _ h => h) (Or.inr ⟨by rfl, rfl⟩) ?_
      try simp only [Act.put, zA, zB, zC]
      refine wpAnyR_takeQ (i := 5) (v := undef) (some 38) rfl rfl (by kernel_rfl) (by kernel_rfl) (by kernel_rfl) (by kernel_rfl) (fun _ _ _ h => h) (Or.inr ⟨by rfl, rfl⟩) ?_
      try simp only [Act.put, zA, zB, zC]
      refine wpAnyR_takeQ (i := 6) (v := undef) (some 39) rfl rfl (by kernel_rfl) (by kernel_rfl) (by kernel_rfl) (by kernel_rfl) (fun _ _ _ h => h) (Or.inr ⟨by rfl, rfl⟩) ?_
      try simp only [Act.put, zA, zB, zC]
      refine wpAnyR_takeQ (i := 7) (v := undef) (some 40) rfl rfl (by kernel_rfl) (by kernel_rfl) (by kernel_rfl) (by kernel_rfl) (fun _ _ _ h => h) (Or.inr ⟨by rfl, rfl⟩) ?_
      try simp only [Act.put, zA, zB, zC]
      refine wpAnyR_takeQ (i := 8) (v := undef) (some 41) rfl rfl (by kernel_rfl) (by kernel_rfl) (by kernel_rfl) (by kernel_rfl) (fun _ _ _ h => h) (Or.inr ⟨by rfl, rfl⟩) ?_
      try simp only [Act.put, zA, zB, zC]
      refine wpAnyR_takeQ (i := 9) (v := undef) (some 42) rfl rfl (by kernel_rfl) (by kernel_rfl) (by kernel_rfl) (by kernel_rfl) (fun _ _ _ h => h) (Or.inr ⟨by rfl, rfl⟩) ?_
      try simp only [Act.put, zA, zB, zC]
      refine wpAnyR_takeQ (i := 10) (v := undef) (some 43) rfl rfl (by kernel_rfl) (by kernel_rfl) (by kernel_rfl) (by kernel_rfl) (fun _ _ _ h => h) (Or.inr ⟨by rfl, rfl⟩) ?_
      try simp only [Act.put, zA, zB, zC]
      refine wpAnyR_takeQ (i := 11) (v := undef) (some 44) rfl rfl (by kernel_rfl) (by kernel_rfl) (by kernel_rfl) (by kernel_rfl) (fun _ _ _ h => h) (Or.inr ⟨by rfl, rfl⟩) ?_
      try simp only [Act.put, zA, zB, zC]
      refine wpAnyR_takeQ (i := 12) (v := undef) (some 45) rfl rfl (by kernel_rfl) (by kernel_rfl) (by kernel_rfl) (by kernel_rfl) (fun _ _ _ h => h) (Or.inr ⟨by rfl, rfl⟩) ?_
      try simp only [Act.put, zA, zB, zC]
      refine wpAnyR_takeQ (i := 13) (v := undef) (some 46) rfl rfl (by kernel_rfl) (by kernel_rfl) (by kernel_rfl) (by kernel_rfl) (fun _ _ _ h => h) (Or.inr ⟨by rfl, rfl⟩) ?_
      try simp only [Act.put, zA, zB, zC]
      refine wpAnyR_takeQ (i := 14) (v := ?_) (some 47) rfl rfl (by kernel_rfl) (by kernel_rfl) (by kernel_rfl) (by kernel_rfl) (fun _ _ _ h => h) (Or.inl ⟨by rfl, ?_⟩) ?_
      rotate_left
      focus (intro wS hSw; (try dsimp only at hSw); go_simp; (try with_reducible rfl); (try (first | (rw [if_pos (by omega)]; (try go_simp); (try with_reducible rfl)) | (rw [if_neg (by omega)]; (try go_simp); (try with_reducible rfl)))))
      try simp only [Act.put, zA, zB, zC]
      refine wpAnyR_done (by kernel_rfl) ?_ _
      go_wp2_with fail
      go_returns
      rw [HE.out]
      exact ⟨_, rfl, HOWN.out.drew, HGX.out.drew⟩
    have hmp : 0 < m := by omega
    cases hbb : memS (ints F) (xf + xc + k) with
    | true =>
      go_wp2_with fail
      refine wp_region_R [] (fun w' : World => w'.cell? ⟨g, I.length * 2, none⟩ = some (.int .i64 (xf : Int)) ∧ w'.cell? ⟨g, I.length * 2 + 1, none⟩ = some (.int .i64 ((xc : Int) + (k : Int)))) (by kernel_rfl) ?_
      have hS := (show (fun w' : World => w'.cell? ⟨g, I.length * 2, none⟩ = some (.int .i64 (xf : Int)) ∧ w'.cell? ⟨g, I.length * 2 + 1, none⟩ = some (.int .i64 ((xc : Int) + (k : Int)))) wr.drew from ⟨y0, y1⟩)
      refine wpAnyR_takeQ (i := 0) (v := ?_) (some 33) rfl rfl (by kernel_rfl) (by kernel_rfl) (by kernel_rfl) (by kernel_rfl) (fun _ _ _ h => h) (Or.inl ⟨by rfl, ?_⟩) ?_
      rotate_left
      focus (intro wS hSw; (try dsimp only at hSw); go_simp; (try with_reducible rfl); (try (first | (rw [if_pos (by omega)]; (try go_simp); (try with_reducible rfl)) | (rw [if_neg (by omega)]; (try go_simp); (try with_reducible rfl)))))
      try simp only [Act.put, zA, zB, zC]
      refine wpAnyR_takeQ (i := 1) (v := ?_) (some 34) rfl rfl (by kernel_rfl) (by kernel_rfl) (by kernel_rfl) (by kernel_rfl) (fun _ _ _ h => h) (Or.inl ⟨by rfl, ?_⟩) ?_
      rotate_left
      focus (intro wS hSw; (try dsimp only at hSw); go_simp; (try with_reducible rfl); (try (first | (rw [if_pos (by omega)]; (try go_simp); (try with_reducible rfl)) | (rw [if_neg (by omega)]; (try go_simp); (try with_reducible rfl)))))
      try simp only [Act.put, zA, zB, zC]
      refine wpAnyR_takeQ (i := 2) (v := ?_) (some 35) rfl rfl (by kernel_rfl) (by kernel_rfl) (by kernel_rfl) (by kernel_rfl) (fun _ _ _ h => h) (Or.inl ⟨by rfl, ?_⟩) ?_
      rotate_left
      focus (intro wS hSw; (try dsimp only at hSw); go_simp; (try with_reducible rfl); (try (first | (rw [if_pos (by omega)]; (try go_simp); (try with_reducible rfl)) | (rw [if_neg (by omega)]; (try go_simp); (try with_reducible rfl)))))
      try simp only [Act.put, zA, zB, zC]
      try rw [show decide ((m : Int) > 0) = true from decide_eq_true (by omega)]
      refine wpAnyR_takeQ (i := 3) (v := ?_) (some 36) rfl rfl (by kernel_rfl) (by kernel_rfl) (by kernel_rfl) (by kernel_rfl) (fun _ _ _ h => h) (Or.inl ⟨by rfl, ?_⟩) ?_
      rotate_left
      focus (intro wS hSw; (try dsimp only at hSw); go_simp; (try with_reducible rfl); (try (first | (rw [if_pos (by omega)]; (try go_simp); (try with_reducible rfl)) | (rw [if_neg (by omega)]; (try go_simp); (try with_reducible rfl)))))
      try simp only [Act.put, zA, zB, zC]
      refine wpAnyR_takeQ (i := 4) (v := ?_) (some 37) rfl rfl (by kernel_rfl) (by kernel_rfl) (by kernel_rfl) (by kernel_rfl) (fun _ _ _ h => h) (Or.inl ⟨by rfl, ?_⟩) ?_
      rotate_left
      focus (intro wS hSw; (try dsimp only at hSw); go_simp; (try with_reducible rfl); (try (first | (rw [if_pos (by omega)]; (try go_simp); (try with_reducible rfl)) | (rw [if_neg (by omega)]; (try go_simp); (try with_reducible rfl)))))
      try simp only [Act.put, zA, zB, zC]
      refine wpAnyR_take (i := 5) (v := ?_) [6, 7, 12, 13, 14] (some 38) rfl rfl (by kernel_rfl) (by kernel_rfl) (by kernel_rfl) (by kernel_rfl) (by kernel_rfl) (by kernel_rfl) (by kernel_rfl) (fun _ _ _ h => h) (Or.inl ⟨by rfl, ?_⟩) hS ?_
      rotate_left
      focus (intro wS hSw; (try dsimp only at hSw); go_simp; (try with_reducible rfl); (try (first | (rw [if_pos (by omega)]; (try go_simp); (try with_reducible rfl)) | (rw [if_neg (by omega)]; (try go_simp); (try with_reducible rfl)))))
      try simp only [Act.put, zA, zB, zC]
      refine wpAnyR_takeQ (i := 6) (v := ?_) (some 39) rfl rfl (by kernel_rfl) (by kernel_rfl) (by kernel_rfl) (by kernel_rfl) (fun _ _ _ h => h) (Or.inl ⟨by rfl, ?_⟩) ?_
      rotate_left
      focus (intro wS hSw; (try dsimp only at hSw); go_simp; (try with_reducible rfl); (try (first | (rw [if_pos (by omega)]; (try go_simp); (try with_reducible rfl)) | (rw [if_neg (by omega)]; (try go_simp); (try with_reducible rfl)))))
      try simp only [Act.put, zA, zB, zC]
      refine wpAnyR_take (i := 7) (v := ?_) [12, 13, 14] (some 40) rfl rfl (by kernel_rfl) (by kernel_rfl) (by kernel_rfl) (by kernel_rfl) (by kernel_rfl) (by kernel_rfl) (by kernel_rfl) (fun _ _ _ h => h) (Or.inl ⟨by rfl, ?_⟩) hS ?_
      rotate_left
      focus (intro wS hSw; (try dsimp only at hSw); go_simp; (try with_reducible rfl); (try (first | (rw [if_pos (by omega)]; (try go_simp); (try with_reducible rfl)) | (rw [if_neg (by omega)]; (try go_simp); (try with_reducible rfl)))))
      try simp only [Act.put, zA, zB, zC]
      refine wpAnyR_takeQ (i := 8) (v := ?_) (some 41) rfl rfl (by kernel_rfl) (by kernel_rfl) (by kernel_rfl) (by kernel_rfl) (fun _ _ _ h => h) (Or.inl ⟨by rfl, ?_⟩) ?_
      rotate_left
      focus (intro wS hSw; (try dsimp only at hSw); go_simp; (try with_reducible rfl); (try (first | (rw [if_pos (by omega)]; (try go_simp); (try with_reducible rfl)) | (rw [if_neg (by omega)]; (try go_simp); (try with_reducible rfl)))))
      try simp only [Act.put, zA, zB, zC]
      refine wpAnyR_take (i := 9) (v := ?_) [10, 11, 12, 13, 14] (some 42) rfl rfl (by kernel_rfl) (by kernel_rfl) (by kernel_rfl) (by kernel_rfl) (by kernel_rfl) (by kernel_rfl) (by kernel_rfl) (fun _ _ _ h => h) (Or.inl ⟨by rfl, ?_⟩) hS ?_
      rotate_left
      focus (intro wS hSw; (try dsimp only at hSw); go_simp; (try with_reducible rfl); (try (first | (rw [if_pos (by omega)]; (try go_simp); (try with_reducible rfl)) | (rw [if_neg (by omega)]; (try go_simp); (try with_reducible rfl)))))
      try simp only [Act.put, zA, zB, zC]
      refine wpAnyR_takeQ (i := 10) (v := ?_) (some 43) rfl rfl (by kernel_rfl) (by kernel_rfl) (by kernel_rfl) (by kernel_rfl) (fun _ _ _ h => h) (Or.inl ⟨by rfl, ?_⟩) ?_
      rotate_left
      focus (intro wS hSw; (try dsimp only at hSw); go_simp; (try with_reducible rfl); (try (first | (rw [if_pos (by omega)]; (try go_simp); (try with_reducible rfl)) | (rw [if_neg (by omega)]; (try go_simp); (try with_reducible rfl)))))
      try simp only [Act.put, zA, zB, zC]
      refine wpAnyR_take (i := 11) (v := ?_) [12, 13, 14] (some 44) rfl rfl (by kernel_rfl) (by kernel_rfl) (by kernel_rfl) (by kernel_rfl) (by kernel_rfl) (by kernel_rfl) (by kernel_rfl) (fun _ _ _ h => h) (Or.inl ⟨by rfl, ?_⟩) hS ?_
      rotate_left
      focus (intro wS hSw; (try dsimp only at hSw); go_simp; (try with_reducible rfl); (try (first | (rw [if_pos (by omega)]; (try go_simp); (try with_reducible rfl)) | (rw [if_neg (by omega)]; (try go_simp); (try with_reducible rfl)))))
      try simp only [Act.put, zA, zB, zC]
      refine wpAnyR_takeQ (i := 12) (v := ?_) (some 45) rfl rfl (by kernel_rfl) (by kernel_rfl) (by kernel_rfl) (by kernel_rfl) (fun _ _ _ h => h) (Or.inl ⟨by rfl, ?_⟩) ?_
      rotate_left
      focus (intro wS hSw; (try dsimp only at hSw); go_simp; (try with_reducible rfl); (try (first | (rw [if_pos (by omega)]; (try go_simp); (try with_reducible rfl)) | (rw [if_neg (by omega)]; (try go_simp); (try with_reducible rfl)))))
      try simp only [Act.put, zA, zB, zC]
      try rw [hw]
      refine wpAnyR_n1 (i := 13) rfl (by kernel_rfl) ?_
      intro K' hK
      rw [if_pos (by rfl)]
      simp only [List.getElem_toArray, List.getElem_cons_succ, List.getElem_cons_zero]
      go_wp2_with fail
      refine (contains_val (w := wr.drew) (l := ints F) (ints_len F).symm (by rw [ints_len]; omega) HRK.out _ (by omega) (by omega) true (by rw [HINX.out, hbb])).mono ?_
      rintro e wb ⟨rfl, gb⟩
      go_wp2_with fail
      have q0 := (gb.cellEq _ _ hgw).trans y0
      have q1 := (gb.cellEq _ _ hgw).trans y1
      have qf := (gb.frozenEq _ _ hgw).trans yf1
      have hgwb : g < wb.heap.size := Nat.lt_of_lt_of_le hgw gb.size
      have gb' : Grew wr wb := (Grew.refl wr).drew.trans gb
      have hownb := HOWN.out.grew gb'
      have htb := HT.out.andGrew gb'
      refine hK.out _ _ (.inr (fun _ => ⟨q0, q1⟩)) ?_
      clear hK hS
      refine wpAnyR_takeQ (i := 14) (v := ?_) (some 47) rfl rfl (by kernel_rfl) (by kernel_rfl) (by kernel_rfl) (by kernel_rfl) (fun _ _ _ h => h) (Or.inl ⟨by rfl, ?_⟩) ?_
      rotate_left
      focus (intro wS hSw; (try dsimp only at hSw); go_simp; (try with_reducible rfl); (try (first | (rw [if_pos (by omega)]; (try go_simp); (try with_reducible rfl)) | (rw [if_neg (by omega)]; (try go_simp); (try with_reducible rfl)))))
      try simp only [Act.put, zA, zB, zC]
      refine wpAnyR_done (by kernel_rfl) ?_ _
      clear y0 y1 yf1
      have HBB := Lib.hid hbb
      have hsetown := hownb.set_ (i := 1) (o := I.length * 2 + 1) HROW.out (by omega) rfl (.int .i64 ((xc + (k + 1) : Nat) : Int))
      rw [rows_set', show (I ++ [(xf, xc + k)]).set I.length (xf, xc + (k + 1)) = I ++ [(xf, xc + (k + 1))] from by rw [List.set_append_right _ _ (Nat.le_refl _)]; simp] at hsetown
      have HST := Lib.hid hsetown
      have hq1' : (xc : Int) + (k : Int) + 1 = ((xc + (k + 1) : Nat) : Int) := by omega
      clear hsetown hbb
      go_wp2_with fail
      go_roundg (nn - (k + 1))
      case measure => rw [HGK.out]; omega
      case rel => exact ⟨k + 1, by omega, by omega, by go_num, fun j hj => by (by_cases hjk : j = k); (· subst hjk; exact HBB.out); (· exact HALL.out j (by omega)), by have := HST.out; (first | exact this | (rw [hq1'] at *; exact this)), by have := htb; (repeat' first | (with_reducible exact Turned.refl _ _) | (with_reducible assumption) | (with_reducible refine Turned.alloc ?_ _) | (with_reducible refine Turned.drew ?_) | (with_reducible refine Turned.drewN ?_ _) | (with_reducible refine Turned.setRow ?_ (by first | (simp; done) | (simp; omega) | omega) _) | (with_reducible refine Turned.setCell ?_ (by first | (simp; done) | (simp; omega) | omega) _) | ((with_reducible apply Turned.andGrew); rotate_left; (with_reducible assumption)) | ((with_reducible apply Turned.trans); rotate_left; (with_reducible assumption)) | fail)⟩
    | false =>
      go_wp2_with fail
      refine wp_region_R [] (fun w' : World => w'.cell? ⟨g, I.length * 2, none⟩ = some (.int .i64 (xf : Int)) ∧ w'.cell? ⟨g, I.length * 2 + 1, none⟩ = some (.int .i64 ((xc : Int) + (k : Int)))) (by kernel_rfl) ?_
      have hS := (show (fun w' : World => w'.cell? ⟨g, I.length * 2, none⟩ = some (.int .i64 (xf : Int)) ∧ w'.cell? ⟨g, I.length * 2 + 1, none⟩ = some (.int .i64 ((xc : Int) + (k : Int)))) wr.drew from ⟨y0, y1⟩)
      refine wpAnyR_takeQ (i := 0) (v := ?_) (some 33) rfl rfl (by kernel_rfl) (by kernel_rfl) (by kernel_rfl) (by kernel_rfl) (fun _ _ _ h => h) (Or.inl ⟨by rfl, ?_⟩) ?_
      rotate_left
      focus (intro wS hSw; (try dsimp only at hSw); go_simp; (try with_reducible rfl); (try (first | (rw [if_pos (by omega)]; (try go_simp); (try with_reducible rfl)) | (rw [if_neg (by omega)]; (try go_simp); (try with_reducible rfl)))))
      try simp only [Act.put, zA, zB, zC]
      refine wpAnyR_takeQ (i := 1) (v := ?_) (some 34) rfl rfl (by kernel_rfl) (by kernel_rfl) (by kernel_rfl) (by kernel_rfl) (fun _ _ _ h => h) (Or.inl ⟨by rfl, ?_⟩) ?_
      rotate_left
      focus (intro wS hSw; (try dsimp only at hSw); go_simp; (try with_reducible rfl); (try (first | (rw [if_pos (by omega)]; (try go_simp); (try with_reducible rfl)) | (rw [if_neg (by omega)]; (try go_simp); (try with_reducible rfl)))))
      try simp only [Act.put, zA, zB, zC]
      refine wpAnyR_takeQ (i := 2) (v := ?_) (some 35) rfl rfl (by kernel_rfl) (by kernel_rfl) (by kernel_rfl) (by kernel_rfl) (fun _ _ _ h => h) (Or.inl ⟨by rfl, ?_⟩) ?_
      rotate_left
      focus (intro wS hSw; (try dsimp only at hSw); go_simp; (try with_reducible rfl); (try (first | (rw [if_pos (by omega)]; (try go_simp); (try with_reducible rfl)) | (rw [if_neg (by omega)]; (try go_simp); (try with_reducible rfl)))))
      try simp only [Act.put, zA, zB, zC]
      try rw [show decide ((m : Int) > 0) = true from decide_eq_true (by omega)]
      refine wpAnyR_takeQ (i := 3) (v := ?_) (some 36) rfl rfl (by kernel_rfl) (by kernel_rfl) (by kernel_rfl) (by kernel_rfl) (fun _ _ _ h => h) (Or.inl ⟨by rfl, ?_⟩) ?_
      rotate_left
      focus (intro wS hSw; (try dsimp only at hSw); go_simp; (try with_reducible rfl); (try (first | (rw [if_pos (by omega)]; (try go_simp); (try with_reducible rfl)) | (rw [if_neg (by omega)]; (try go_simp); (try with_reducible rfl)))))
      try simp only [Act.put, zA, zB, zC]
      refine wpAnyR_takeQ (i := 4) (v := ?_) (some 37) rfl rfl (by kernel_rfl) (by kernel_rfl) (by kernel_rfl) (by kernel_rfl) (fun _ _ _ h => h) (Or.inl ⟨by rfl, ?_⟩) ?_
      rotate_left
      focus (intro wS hSw; (try dsimp only at hSw); go_simp; (try with_reducible rfl); (try (first | (rw [if_pos (by omega)]; (try go_simp); (try with_reducible rfl)) | (rw [if_neg (by omega)]; (try go_simp); (try with_reducible rfl)))))
      try simp only [Act.put, zA, zB, zC]
      refine wpAnyR_take (i := 5) (v := ?_) [6, 7, 12, 13, 14] (some 38) rfl rfl (by kernel_rfl) (by kernel_rfl) (by kernel_rfl) (by kernel_rfl) (by kernel_rfl) (by kernel_rfl) (by kernel_rfl) (fun _ _ _ h => h) (Or.inl ⟨by rfl, ?_⟩) hS ?_
      rotate_left
      focus (intro wS hSw; (try dsimp only at hSw); go_simp; (try with_reducible rfl); (try (first | (rw [if_pos (by omega)]; (try go_simp); (try with_reducible rfl)) | (rw [if_neg (by omega)]; (try go_simp); (try with_reducible rfl)))))
      try simp only [Act.put, zA, zB, zC]
      refine wpAnyR_takeQ (i := 6) (v := ?_) (some 39) rfl rfl (by kernel_rfl) (by kernel_rfl) (by kernel_rfl) (by kernel_rfl) (fun _ _ _ h => h) (Or.inl ⟨by rfl, ?_⟩) ?_
      rotate_left
      focus (intro wS hSw; (try dsimp only at hSw); go_simp; (try with_reducible rfl); (try (first | (rw [if_pos (by omega)]; (try go_simp); (try with_reducible rfl)) | (rw [if_neg (by omega)]; (try go_simp); (try with_reducible rfl)))))
      try simp only [Act.put, zA, zB, zC]
      refine wpAnyR_take (i := 7) (v := ?_) [12, 13, 14] (some 40) rfl rfl (by kernel_rfl) (by kernel_rfl) (by kernel_rfl) (by kernel_rfl) (by kernel_rfl) (by kernel_rfl) (by kernel_rfl) (fun _ _ _ h => h) (Or.inl ⟨by rfl, ?_⟩) hS ?_
      rotate_left
      focus (intro wS hSw; (try dsimp only at hSw); go_simp; (try with_reducible rfl); (try (first | (rw [if_pos (by omega)]; (try go_simp); (try with_reducible rfl)) | (rw [if_neg (by omega)]; (try go_simp); (try with_reducible rfl)))))
      try simp only [Act.put, zA, zB, zC]
      refine wpAnyR_takeQ (i := 8) (v := ?_) (some 41) rfl rfl (by kernel_rfl) (by kernel_rfl) (by kernel_rfl) (by kernel_rfl) (fun _ _ _ h => h) (Or.inl ⟨by rfl, ?_⟩) ?_
      rotate_left
      focus (intro wS hSw; (try dsimp only at hSw); go_simp; (try with_reducible rfl); (try (first | (rw [if_pos (by omega)]; (try go_simp); (try with_reducible rfl)) | (rw [if_neg (by omega)]; (try go_simp); (try with_reducible rfl)))))
      try simp only [Act.put, zA, zB, zC]
      refine wpAnyR_take (i := 9) (v := ?_) [10, 11, 12, 13, 14] (some 42) rfl rfl (by kernel_rfl) (by kernel_rfl) (by kernel_rfl) (by kernel_rfl) (by kernel_rfl) (by kernel_rfl) (by kernel_rfl) (fun _ _ _ h => h) (Or.inl ⟨by rfl, ?_⟩) hS ?_
      rotate_left
      focus (intro wS hSw; (try dsimp only at hSw); go_simp; (try with_reducible rfl); (try (first | (rw [if_pos (by omega)]; (try go_simp); (try with_reducible rfl)) | (rw [if_neg (by omega)]; (try go_simp); (try with_reducible rfl)))))
      try simp only [Act.put, zA, zB, zC]
      refine wpAnyR_takeQ (i := 10) (v := ?_) (some 43) rfl rfl (by kernel_rfl) (by kernel_rfl) (by kernel_rfl) (by kernel_rfl) (fun _ _ _ h => h) (Or.inl ⟨by rfl, ?_⟩) ?_
      rotate_left
      focus (intro wS hSw; (try dsimp only at hSw); go_simp; (try with_reducible rfl); (try (first | (rw [if_pos (by omega)]; (try go_simp); (try with_reducible rfl)) | (rw [if_neg (by omega)]; (try go_simp); (try with_reducible rfl)))))
      try simp only [Act.put, zA, zB, zC]
      refine wpAnyR_take (i := 11) (v := ?_) [12, 13, 14] (some 44) rfl rfl (by kernel_rfl) (by kernel_rfl) (by kernel_rfl) (by kernel_rfl) (by kernel_rfl) (by kernel_rfl) (by kernel_rfl) (fun _ _ _ h => h) (Or.inl ⟨by rfl, ?_⟩) hS ?_
      rotate_left
      focus (intro wS hSw; (try dsimp only at hSw); go_simp; (try with_reducible rfl); (try (first | (rw [if_pos (by omega)]; (try go_simp); (try with_reducible rfl)) | (rw [if_neg (by omega)]; (try go_simp); (try with_reducible rfl)))))
      try simp only [Act.put, zA, zB, zC]
      refine wpAnyR_takeQ (i := 12) (v := ?_) (some 45) rfl rfl (by kernel_rfl) (by kernel_rfl) (by kernel_rfl) (by kernel_rfl) (fun _ _ _ h => h) (Or.inl ⟨by rfl, ?_⟩) ?_
      rotate_left
      focus (intro wS hSw; (try dsimp only at hSw); go_simp; (try with_reducible rfl); (try (first | (rw [if_pos (by omega)]; (try go_simp); (try with_reducible rfl)) | (rw [if_neg (by omega)]; (try go_simp); (try with_reducible rfl)))))
      try simp only [Act.put, zA, zB, zC]
      try rw [hw]
      refine wpAnyR_n1 (i := 13) rfl (by kernel_rfl) ?_
      intro K' hK
      rw [if_pos (by rfl)]
      simp only [List.getElem_toArray, List.getElem_cons_succ, List.getElem_cons_zero]
      go_wp2_with fail
      refine (contains_val (w := wr.drew) (l := ints F) (ints_len F).symm (by rw [ints_len]; omega) HRK.out _ (by omega) (by omega) false (by rw [HINX.out, hbb])).mono ?_
      rintro e wb ⟨rfl, gb⟩
      go_wp2_with fail
      have q0 := (gb.cellEq _ _ hgw).trans y0
      have q1 := (gb.cellEq _ _ hgw).trans y1
      have qf := (gb.frozenEq _ _ hgw).trans yf1
      have hgwb : g < wb.heap.size := Nat.lt_of_lt_of_le hgw gb.size
      have gb' : Grew wr wb := (Grew.refl wr).drew.trans gb
      have hownb := HOWN.out.grew gb'
      have htb := HT.out.andGrew gb'
      refine hK.out _ _ (.inr (fun _ => ⟨q0, q1⟩)) ?_
      clear hK hS
      refine wpAnyR_takeQ (i := 14) (v := ?_) (some 47) rfl rfl (by kernel_rfl) (by kernel_rfl) (by kernel_rfl) (by kernel_rfl) (fun _ _ _ h => h) (Or.inl ⟨by rfl, ?_⟩) ?_
      rotate_left
      focus (intro wS hSw; (try dsimp only at hSw); go_simp; (try with_reducible rfl); (try (first | (rw [if_pos (by omega)]; (try go_simp); (try with_reducible rfl)) | (rw [if_neg (by omega)]; (try go_simp); (try with_reducible rfl)))))
      try simp only [Act.put, zA, zB, zC]
      refine wpAnyR_done (by kernel_rfl) ?_ _
      clear y0 y1 yf1
      have hkn : k < nn := by omega
      have HEK := Lib.hid (HEQ.out k hk HALL.out (.inr hbb))
      have hGb : Grew w wb := hG.turn htb (fun i hi => by omega)
      have hb0 : ((m : Int) == 0) = false := beq_eq_false_iff_ne.2 (by omega)
      clear hbb q0 q1 qf
      by_cases hmo : 16 - ((I.length : Int) + 1) < 1
      · have HE := Lib.hid (show extS l1 l2 (nn : Int) = ([], 14) from by rw [HEK.out]; unfold extG; rw [if_neg (by omega), if_pos hmo])
        have HGX := Lib.hid hGb
        clear hGb
        go_wp2_with fail
        go_returns
        rw [HE.out]
        exact ⟨_, rfl, OwnL.nil _ _ _ _, HGX.out⟩
      have HEK2 := Lib.hid (show extS l1 l2 (nn : Int) = if (extA I (xf, xc) l2 nn k).2 ≠ 0 then ([], (extA I (xf, xc) l2 nn k).2) else (joinS (ints (extL I (xf, xc) k ++ (extA I (xf, xc) l2 nn k).1)), 0) from by rw [HEK.out]; unfold extG; rw [if_neg (by omega), if_neg hmo])
      have hbL : ∀ r ∈ I ++ [(xf, xc + k)], r.1 + r.2 ≤ 128 := HBD.out k HALL.out
      obtain ⟨A5, c5, hv5, hrL, _, _, _⟩ := own_runs2 hownb (fun r hr => Nat.le_trans (hbL r hr) (by omega))
      rw [List.length_append, List.length_singleton] at hv5
      injection hv5 with e1 e2 e3
      subst e1; subst e3
      have hLl : (I ++ [(xf, xc + k)]).length = I.length + 1 := by simp
      have hM := minus_any AF (some ⟨g, 0, none⟩) cF cap (ints F) (ints (I ++ [(xf, xc + k)])) wb wb.heap.size (Nat.le_refl _) (by rw [ints_len]; omega) (by rw [ints_len]; omega) (RunsAt.wide (RunsAt.keep HRK.out (Nat.le_refl _) gb') gb'.size) hrL
      rw [ints_len, ints_len, hLl, show (normS fun i => memS (ints F) i && !memS (ints (I ++ [(xf, xc + k)])) i) = extF (extL I (xf, xc) k) (ints F) from rfl] at hM
      have hA0 : extA I (xf, xc) l2 nn k = allocS (memS (ints (extF (extL I (xf, xc) k) (ints F)))) (m : Int) (16 - ((I.length : Int) + 1)) := by unfold extA; rw [HF.out, hm]
      have hf2b : ∀ r ∈ extF (extL I (xf, xc) k) (ints F), r.1 + r.2 ≤ 128 := normS_bd _
      have hf2l : (extF (extL I (xf, xc) k) (ints F)).length ≤ 128 := normS_len _
      generalize extF (extL I (xf, xc) k) (ints F) = F2 at *
      have hab := alloc_bd (memS (ints F2)) (m : Int) (16 - ((I.length : Int) + 1))
      have hal := alloc_len (memS (ints F2)) (m : Int) (16 - ((I.length : Int) + 1))
      rw [← hA0] at hab hal
      have HALC := Lib.hid (fun A c w (h : RunsAt w w.heap.size A (ints F2)) => alloc_any A c (ints F2) w w.heap.size (Nat.le_refl _) (by rw [ints_len]; omega) h (m : Int) (by omega) (by omega) (16 - ((I.length : Int) + 1)))
      rw [← hA0] at HALC
      have HM := Lib.hid hM
      have HAB := Lib.hid hab
      clear hM hA0 hab e2 hLl hrL
      go_wp2_with fail
      refine HM.out.mono ?_
      rintro e wc ⟨v3, rfl, hown3, gc⟩
      obtain ⟨A3, c3, hv3, hr3, _, _, _⟩ := own_runs2 hown3 (fun r hr => Nat.le_trans (hf2b r hr) (by omega))
      subst hv3
      have hAL := HALC.out A3 c3 wc hr3
      rw [ints_len] at hAL
      have hownc := hownb.grew gc
      have hGc := hGb.trans gc
      clear HM HALC hown3 hr3 gc hGb hownb
      go_wp2_with fail
      refine hAL.mono ?_
      rintro e wd ⟨v4, rfl, hown4, gd⟩
      have hownd := hownc.grew gd
      have hGd := hGc.trans gd
      have hgsz := hGd.size
      obtain ⟨A4, c4, hv4, _, _, hl4⟩ := hown4.listAt
      rw [List.length_map] at hv4
      subst hv4
      clear hAL hownc hGc gd
      generalize extA I (xf, xc) l2 nn k = a at *
      obtain ⟨al, ae⟩ := a
      simp only at hal HAB hl4
      by_cases hae : ae = 0
      rotate_left
      · have HE := Lib.hid (show extS l1 l2 (nn : Int) = ([], ae) from by rw [HEK2.out]; exact if_pos hae)
        have hne : (ae != 0) = true := bne_iff_ne.2 hae
        have HGX := Lib.hid hGd
        clear hGd hae
        go_wp2_with fail
        go_returns
        rw [HE.out]
        exact ⟨_, rfl, OwnL.nil _ _ _ _, HGX.out⟩
      · have HE := Lib.hid (show extS l1 l2 (nn : Int) = (joinS (ints (I ++ [(xf, xc + k)] ++ al)), 0) from by rw [HEK2.out]; exact if_neg (fun h => h hae))
        subst hae
        have hLl : ((I ++ [(xf, xc + k)]).map rowN).length = I.length + 1 := by simp
        go_wp2_with (at_builtin; refine wpList_pushAll (by rfl) _ _ 22 rfl w.heap.size 58 2 16 _ Try.underlying22 info_run rfl (by decide) _ ((I ++ [(xf, xc + k)]).map rowN) (al.map rowN) (by rfl) hownd _ al.length _ (by rfl) (by rw [List.length_map]) (rowN_len al) hl4 (rowN_one al) (by rw [hLl]; omega) (by rw [hLl]; omega) hgsz ?_; intro v5 w5 hown5 hgr5 hat5)
        have g5 : Grew w w5 := Grew.own hGd hgr5 hownd.row_ge (Nat.le_refl _)
        rw [← List.map_append] at hown5
        have hb5 : ∀ r ∈ I ++ [(xf, xc + k)] ++ al, r.1 + r.2 ≤ 128 := fun r hr => (List.mem_append.1 hr).elim (hbL r) (HAB.out r)
        obtain ⟨A6, c6, hv6, hr6, _, _, _⟩ := own_runs2 hown5 (fun r hr => Nat.le_trans (hb5 r hr) (by omega))
        subst hv6
        have hjn := join_any A6 c6 (ints (I ++ [(xf, xc + k)] ++ al)) w5 w5.heap.size (Nat.le_refl _) (by rw [ints_len, List.length_append, List.length_append, List.length_singleton]; omega) hr6
        rw [ints_len] at hjn
        have HJN := Lib.hid hjn
        clear hjn hgr5 hat5 hown5 hownd hGd hl4 hown4 hr6
        go_wp2_with fail
        refine HJN.out.mono ?_
        rintro e w6 ⟨v6, rfl, hown6, g6⟩
        go_wp2_with fail
        go_returns
        rw [HE.out]
        exact ⟨_, rfl, hown6.mono g5.size, g5.trans g6⟩
end
end Go.Proofs.Ytnlaogneceanoaa
namespace Go.Proofs.Ytnlaogneceanoaa
set_option linter.unusedVariables false
set_option linter.unusedSimpArgs false
set_option linter.unusedSectionVars false
open Go.RowKit
theorem blk_runs {w : World} {g : Nat} {cs : Array Value} {l : List (Int × Int)} (hb : Blk w g 58 cs) (hc : cs.toList = (l.map runC).flatten) (hok : ∀ r ∈ l, okRun r) : RunsAt w w.heap.size (some ⟨g, 0, none⟩) l := by
  refine ⟨hok, fun _ => ⟨g, 0, rfl, hb.lt, fun j c hj i v hi => ?_⟩⟩
  have h := flatten_at (sz := 2) (rows := l.map runC) (fun r hr => by obtain ⟨x, _, rfl⟩ := List.mem_map.1 hr; rfl) j i c v hj hi
  rw [← hc] at h
  rw [hb.cell, Nat.zero_add, ← Array.getElem?_toList]
  exact h
section
variable {A : Option Addr} {c m : Nat} {l : List (Int × Int)} {w : World}
end
theorem extG_bd (I : List (Nat × Nat)) (x : Nat × Nat) (f : List (Int × Int)) (nn k : Nat) (hb : ∀ r ∈ extL I x k, r.1 + r.2 ≤ 128) : ∀ r ∈ (extG I x f nn k).1, r.1 + r.2 ≤ 128 := by
  unfold extG
  split
  · exact hb
  · split
    · intro r hr; cases hr
    · split
      · intro r hr; cases hr
      · exact joinS_bd _
/-- What Extend returns lies on the volume, and how many tracks there are of the last run. -/
theorem extS_cases (e f : List (Int × Int)) (n : Int) : (extS e f n = ([], 1)) ∨ ∃ I x k, joinS e = I ++ [x] ∧ 1 ≤ n ∧ k ≤ n.toNat ∧ (∀ j, j < k → memS (ints (extF (I ++ [x]) f)) (x.1 + x.2 + j) = true) ∧ (k = n.toNat ∨ memS (ints (extF (I ++ [x]) f)) (x.1 + x.2 + k) = false) ∧ extS e f n = extG I x f n.toNat k := by
  by_cases h1 : n < 1
  · exact .inl (by unfold extS; rw [if_pos (.inl h1)])
  · rcases last_cases (joinS e) with h0 | ⟨I, x, hL⟩
    · exact .inl (by unfold extS; rw [if_pos (.inr h0)])
    · obtain ⟨nn, rfl⟩ : ∃ nn : Nat, n = (nn : Int) := ⟨n.toNat, by omega⟩
      obtain ⟨k, hk, hall, hend⟩ : ∃ k, k ≤ nn ∧ (∀ j, j < k → memS (ints (extF (I ++ [x]) f)) (x.1 + x.2 + j) = true) ∧ (k = nn ∨ memS (ints (extF (I ++ [x]) f)) (x.1 + x.2 + k) = false) := by
        generalize memS (ints (extF (I ++ [x]) f)) = S
        clear h1
        induction nn with
        | zero => exact ⟨0, Nat.le_refl _, fun j hj => by omega, .inl rfl⟩
        | succ nn ih =>
          obtain ⟨k, hk, hall, hend⟩ := ih
          rcases hend with rfl | hend
          · cases hs : S (x.1 + x.2 + k) with
            | false => exact ⟨k, by omega, hall, .inr hs⟩
            | true =>
              refine ⟨k + 1, Nat.le_refl _, fun j hj => ?_, .inl rfl⟩
              by_cases hjk : j = k
              · subst hjk; exact hs
              · exact hall j (by omega)
          · exact ⟨k, by omega, hall, .inr hend⟩
      exact .inr ⟨I, x, k, hL, by omega, hk, hall, hend, extS_eq e f nn I x k hL (by omega) hk hall hend⟩
theorem extS_bd (e f : List (Int × Int)) (n : Int) : ∀ r ∈ (extS e f n).1, r.1 + r.2 ≤ 128 := by
  rcases extS_cases e f n with h | ⟨I, x, k, hL, _, _, hall, _, h⟩
  · rw [h]; intro r hr; cases hr
  · rw [h]
    exact extG_bd I x f _ k (ext_bd I x _ k (by rw [← hL]; exact joinS_bd e) hall)
end Go.Proofs.Ytnlaogneceanoaa
namespace Go.Proofs.Ytnlaogneceanoaa
set_option linter.unusedVariables false
set_option linter.unusedSimpArgs false
set_option linter.unusedSectionVars false
open Go.RowKit
theorem Blk.hold {w w' : World} {g : Nat} {t : TypeId} {cs : Array Value} (h : Blk w g t cs) (hg : Grew w w') : Blk w' g t cs := h.grew hg
end Go.Proofs.Ytnlaogneceanoaa
namespace Go.Proofs.Ytnlaogneceanoaa
set_option linter.unusedVariables false
set_option linter.unusedSimpArgs false
set_option linter.unusedSectionVars false
open Go.RowKit
theorem cntL_take_le (l : List (Nat × Nat)) (k : Nat) : cntL (l.take k) ≤ cntL l := by
  have := cntL_append (l.take k) (l.drop k)
  rw [List.take_append_drop] at this
  omega
section
variable {A : Option Addr} {c m : Nat} {l : List (Int × Int)} {w : World}
end
end Go.Proofs.Ytnlaogneceanoaa
