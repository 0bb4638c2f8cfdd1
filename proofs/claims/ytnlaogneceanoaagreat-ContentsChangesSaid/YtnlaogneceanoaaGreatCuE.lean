/- Chapter 6: Best, on both sides. slices.SortFunc, laid at this program (written by lay.py out of the kit's own command). Chapter 6: the comparison of two runs, and the sort by it. Chapter 6: Allocate, on both sides. Chapter 6: the reference's sorted. -/
import Derived.Shelf.SlSortCmp.WholeK
import Derived.Shelf.SlSortCmp.NoneTotal
import Derived.Test.YtnlaogneceanoaaGreatCuA
import Derived.Test.YtnlaogneceanoaaGreatCuC
import Derived.Test.YtnlaogneceanoaaGreatCuD
namespace Go.Proofs.YtnlaogneceanoaaGreat
set_option linter.unusedVariables false
set_option linter.unusedSimpArgs false
set_option linter.unusedSectionVars false
open Go.RowKit
/-- A run of a list of runs with natural numbers, in memory. -/
theorem runs_nat {w : World} {B : Nat} {A : Option Addr} {N : List (Nat × Nat)} (h : RunsAt w B A (ints N)) {k : Nat} (hk : k < N.length) :
    ∃ b off, A = some ⟨b, off, none⟩ ∧ b < B ∧ w.cell? ⟨b, off + k * 2, none⟩ = some (.int .i64 (N[k].1 : Int)) ∧ w.cell? ⟨b, off + k * 2 + 1, none⟩ = some (.int .i64 (N[k].2 : Int)) := by
  obtain ⟨b, off, f, c, e, hb, hlk, _, x0, x1⟩ := h.at_ (k := k) (by rw [ints_len]; exact hk)
  have hlk' : (ints N)[k]'(by rw [ints_len]; exact hk) = ((N[k].1 : Int), (N[k].2 : Int)) := by simp [ints]
  rw [hlk'] at hlk
  injection hlk with h1 h2
  exact ⟨b, off, e, hb, by rw [h1]; exact x0, by rw [h2]; exact x1⟩
theorem own_runs2 {w : World} {base : Nat} {v : Value} {l : List (Nat × Nat)} (h : OwnL w base 65 2 v (l.map rowN)) (hb : ∀ r ∈ l, r.1 + r.2 ≤ 1000000) :
    ∃ A c, v = .slice A l.length c ∧ RunsAt w w.heap.size A (ints l) ∧ l.length ≤ c ∧ c ≤ 9223372036854775807 ∧ ∀ b off, A = some ⟨b, off, none⟩ → base ≤ b ∧ b < w.heap.size := by
  obtain ⟨A, c, hv, h1, h2, hl⟩ := h.listAt
  rw [List.length_map] at hv h1
  refine ⟨A, c, hv, ⟨?_, by rw [ints_rows]; exact hl⟩, h1, h2, ?_⟩
  · intro r hr
    obtain ⟨x, hx, rfl⟩ := List.mem_map.1 hr
    have := hb x hx
    unfold okRun
    simp only []
    omega
  · intro b off hA
    rcases h.form with ⟨hv', _⟩ | ⟨g, cap, hv', hg, hg2, _⟩
    · rw [hv] at hv'
      injection hv' with hv'
      rw [hA] at hv'; cases hv'
    · rw [hv] at hv'
      injection hv' with hv'
      rw [hA] at hv'
      injection hv' with hv'
      injection hv' with hv'
      omega
theorem RunsAt.turned {S : Nat → Prop} {w w' : World} {B : Nat} {A : Option Addr} {l : List (Int × Int)} (h : RunsAt w B A l) (hB : B ≤ w.heap.size) (ht : Turned S w w') (hS : ∀ b off, A = some ⟨b, off, none⟩ → ¬ S b) : RunsAt w' B A l :=
  ⟨h.1, fun hp => by
    obtain ⟨b, off, e, hb, hc⟩ := h.2 hp
    exact ⟨b, off, e, hb, fun j cs hj i v hi => by rw [ht.cellEq _ _ (by omega) (hS b off e)]; exact hc j cs hj i v hi⟩⟩
def BestR (w : World) (d : (Int × Int) × Bool) (e : Ending) (w' : World) : Prop := e = .returned (.tuple #[.agg #[.int .i64 d.1.1, .int .i64 d.1.2], .bool d.2]) ∧ Grew w w'
section
variable (A : Option Addr) (c : Nat) (l : List (Int × Int)) (w : World) (B : Nat) (hB : B ≤ w.heap.size) (hl : l.length ≤ 1000000) (hr : RunsAt w B A l) (n : Int) (n0 : -9223372036854775808 ≤ n) (n1 : n ≤ 9223372036854775807)
include hB hl hr n0 n1
set_option maxRecDepth 100000 in
set_option maxHeartbeats 4000000 in
theorem best_any : Calls Tryz.prog 139 #[.slice A l.length c, .int .i64 n] w (BestR w (bestS (memS l) n)) := by
  by_cases hn : n < 1
  · have HE := Lib.hid (show bestS (memS l) n = ((0, 0), false) from by unfold bestS; rw [if_pos (.inl hn)])
    go_enter Tryz.func139, Tryz.ntmps139
    go_wp2_with fail
    refine bodyPost_ret (by first | (simp [*, results, Tryz.results139, go_sem]; rfl) | simp [*, results, Tryz.results139, go_sem]) rfl ?_
    rw [HE.out]
    exact ⟨rfl, by (repeat' first | (with_reducible exact Grew.refl _) | (with_reducible assumption) | (with_reducible refine Grew.alloc ?_ _) | (with_reducible refine Grew.drew ?_) | (with_reducible refine Grew.drewN ?_ _) | (with_reducible refine Grew.setRow ?_ (by first | (simp; done) | (simp; omega) | omega) _) | (with_reducible refine Grew.setCell ?_ (by first | (simp; done) | (simp; omega) | omega) _) | ((with_reducible apply Grew.trans); rotate_left; (with_reducible assumption)) | ((with_reducible apply Grew.turn); rotate_left; (with_reducible assumption); (focus (intro i hi; first | omega | (simp at hi; omega)))) | fail)⟩
  have HS := Lib.hid (show bestS (memS l) n = if n < 1 ∨ (bestF n (normS (memS l))).2 = 0 then ((0, 0), false) else ((((bestF n (normS (memS l))).1 : Int), n), true) from rfl)
  have hC := fun w' (g : Grew w w') => normal_any A c l w' B (Nat.le_trans hB g.size) hl (hr.keep hB g)
  have hbd := normS_bd (memS l)
  have hNl := normS_len (memS l)
  generalize normS (memS l) = N at *
  have HC := Lib.hid hC
  have HBD := Lib.hid hbd
  have HFB := Lib.hid (fun k => bestF_bd n (N.take k) 128 (fun r hr => hbd r (List.mem_of_mem_take hr)))
  clear hr hC hbd
  go_enter Tryz.func139, Tryz.ntmps139
  go_wp2_with fail
  refine (HC.out _ (by (repeat' first | (with_reducible exact Grew.refl _) | (with_reducible assumption) | (with_reducible refine Grew.alloc ?_ _) | (with_reducible refine Grew.drew ?_) | (with_reducible refine Grew.drewN ?_ _) | (with_reducible refine Grew.setRow ?_ (by first | (simp; done) | (simp; omega) | omega) _) | (with_reducible refine Grew.setCell ?_ (by first | (simp; done) | (simp; omega) | omega) _) | ((with_reducible apply Grew.trans); rotate_left; (with_reducible assumption)) | ((with_reducible apply Grew.turn); rotate_left; (with_reducible assumption); (focus (intro i hi; first | omega | (simp at hi; omega)))) | fail))).mono ?_
  rintro e w1 ⟨v, rfl, hown, g1⟩
  have HB4 := ((Blk.new w 65 #[.int .i64 0, .int .i64 0] rfl).alloc (.cells #[.int .i64 0, .int .i64 0] 65)).grew g1
  have HB6 := (Blk.new (w.alloc (.cells #[.int .i64 0, .int .i64 0] 65)) 65 #[.int .i64 0, .int .i64 0] (n := w.heap.size + 1) (by simp)).grew g1
  have hG : Grew w w1 := (((Grew.refl w).alloc _).alloc _).trans g1
  obtain ⟨A', c', hv, hr', _, _, hA'⟩ := own_runs2 hown (fun r hr => Nat.le_trans (HBD.out r hr) (by omega))
  subst hv
  have HR := Lib.hid hr'
  have HA := Lib.hid (show ∀ b off, A' = some ⟨b, off, none⟩ → ¬ b = w.heap.size + 1 from fun b off e => by have := (hA' b off e).1; simp at this; omega)
  have HB4' := Lib.hid HB4
  clear hown hr' HC g1 hA' HB4
  go_wp2_with fail
  go_loopg [16] N.length (fun gk i wr => ∃ k : Nat, k ≤ N.length ∧ gk = N.length - k ∧ i = .int .i64 k ∧ Blk wr (w.heap.size + 1) 65 #[.int .i64 ((bestF n (N.take k)).1 : Int), .int .i64 ((bestF n (N.take k)).2 : Int)] ∧ Turned (fun i => i = w.heap.size + 1) w1 wr)
  case atStart => exact ⟨0, by omega, by omega, rfl, HB6, Turned.refl _ _⟩
  case round =>
    obtain ⟨k, hk, hgk, rfl, hb6, ht⟩ := hrel
    have HGK := Lib.hid hgk
    have HT := Lib.hid ht
    have hb4 := HB4'.out.turned ht (by omega)
    clear hgk
    have hfb := HFB.out k
    by_cases hlt : k < N.length
    · obtain ⟨b, off, rfl, hb, x0, x1⟩ := runs_nat (HR.out.turned (Nat.le_refl _) ht HA.out) hlt
      have hbs : b < wr.heap.size := by have := ht.size; omega
      have hnb : ¬ b = w.heap.size + 1 := HA.out b off rfl
      have hrb := HBD.out _ (List.getElem_mem hlt)
      have HST := Lib.hid (bestF_snoc n N k hlt)
      have y0 := hb6.cell 0
      have y1 := hb6.cell 1
      have yf0 := hb6.frozen 0
      have yf1 := hb6.frozen 1
      have hlb := hb6.lt
      have hgs := hG.size
      generalize N[k] = r at *
      obtain ⟨rf, rc⟩ := r
      generalize bestF n (N.take k) = bb at *
      obtain ⟨bf, bc⟩ := bb
      simp only at x0 x1 y0 y1 hrb hfb
      clear ht
      have HR2 := Lib.hid hb6
      by_cases h1 : n ≤ (rc : Int)
      · by_cases h2 : bc = 0
        · have h2b : (((bc : Nat) : Int) == 0) = true := beq_iff_eq.2 (by omega)
          have HN := Lib.hid (show bestF n (N.take (k + 1)) = (rf, rc) from by rw [HST.out]; unfold bestStep; rw [if_pos ⟨h1, .inl h2⟩])
          clear h2
          go_wp2_with fail
          go_roundg (N.length - (k + 1))
          case measure => rw [HGK.out]; omega
          case rel => exact ⟨k + 1, by omega, by omega, by go_num, by rw [HN.out]; have := HR2.out; (apply Blk.conv; (· (repeat' first | (with_reducible assumption) | (with_reducible apply Blk.setRow) | ((with_reducible apply Blk.farRow); rotate_left; (focus (first | (simp; done) | (simp; omega) | omega))) | (with_reducible apply Blk.drew) | (with_reducible apply Blk.drewN) | (with_reducible apply Blk.set_) | (with_reducible exact Blk.new _ _ _ (by first | rfl | (simp; done) | (simp; omega))) | (with_reducible apply Blk.alloc) | ((with_reducible apply Blk.far); rotate_left; (focus (first | (simp; done) | (simp; omega) | omega))) | ((with_reducible apply Blk.grew); rotate_left; (with_reducible assumption)) | ((with_reducible apply Blk.turned); rotate_left; (with_reducible assumption); (focus (first | (simp; done) | (simp; omega) | omega))) | fail)); (· rfl)), by have := HT.out; (repeat' first | (with_reducible exact Turned.refl _ _) | (with_reducible assumption) | (with_reducible refine Turned.alloc ?_ _) | (with_reducible refine Turned.drew ?_) | (with_reducible refine Turned.drewN ?_ _) | (with_reducible refine Turned.setRow ?_ (by first | (simp; done) | (simp; omega) | omega) _) | (with_reducible refine Turned.setCell ?_ (by first | (simp; done) | (simp; omega) | omega) _) | ((with_reducible apply Turned.andGrew); rotate_left; (with_reducible assumption)) | ((with_reducible apply Turned.trans); rotate_left; (with_reducible assumption)) | fail)⟩
        · have h2b : (((bc : Nat) : Int) == 0) = false := beq_eq_false_iff_ne.2 (by omega)
          by_cases h3 : rc < bc
          · have HN := Lib.hid (show bestF n (N.take (k + 1)) = (rf, rc) from by rw [HST.out]; unfold bestStep; rw [if_pos ⟨h1, .inr h3⟩])
            clear h2
            go_wp2_with fail
            go_roundg (N.length - (k + 1))
            case measure => rw [HGK.out]; omega
            case rel => exact ⟨k + 1, by omega, by omega, by go_num, by rw [HN.out]; have := HR2.out; (apply Blk.conv; (· (repeat' first | (with_reducible assumption) | (with_reducible apply Blk.setRow) | ((with_reducible apply Blk.farRow); rotate_left; (focus (first | (simp; done) | (simp; omega) | omega))) | (with_reducible apply Blk.drew) | (with_reducible apply Blk.drewN) | (with_reducible apply Blk.set_) | (with_reducible exact Blk.new _ _ _ (by first | rfl | (simp; done) | (simp; omega))) | (with_reducible apply Blk.alloc) | ((with_reducible apply Blk.far); rotate_left; (focus (first | (simp; done) | (simp; omega) | omega))) | ((with_reducible apply Blk.grew); rotate_left; (with_reducible assumption)) | ((with_reducible apply Blk.turned); rotate_left; (with_reducible assumption); (focus (first | (simp; done) | (simp; omega) | omega))) | fail)); (· rfl)), by have := HT.out; (repeat' first | (with_reducible exact Turned.refl _ _) | (with_reducible assumption) | (with_reducible refine Turned.alloc ?_ _) | (with_reducible refine Turned.drew ?_) | (with_reducible refine Turned.drewN ?_ _) | (with_reducible refine Turned.setRow ?_ (by first | (simp; done) | (simp; omega) | omega) _) | (with_reducible refine Turned.setCell ?_ (by first | (simp; done) | (simp; omega) | omega) _) | ((with_reducible apply Turned.andGrew); rotate_left; (with_reducible assumption)) | ((with_reducible apply Turned.trans); rotate_left; (with_reducible assumption)) | fail)⟩
          · have HN := Lib.hid (show bestF n (N.take (k + 1)) = (bf, bc) from by rw [HST.out]; unfold bestStep; rw [if_neg (fun h => h.2.elim h2 h3)])
            clear h2
            go_wp2_with fail
            go_roundg (N.length - (k + 1))
            case measure => rw [HGK.out]; omega
            case rel => exact ⟨k + 1, by omega, by omega, by go_num, by rw [HN.out]; have := HR2.out; (apply Blk.conv; (· (repeat' first | (with_reducible assumption) | (with_reducible apply Blk.setRow) | ((with_reducible apply Blk.farRow); rotate_left; (focus (first | (simp; done) | (simp; omega) | omega))) | (with_reducible apply Blk.drew) | (with_reducible apply Blk.drewN) | (with_reducible apply Blk.set_) | (with_reducible exact Blk.new _ _ _ (by first | rfl | (simp; done) | (simp; omega))) | (with_reducible apply Blk.alloc) | ((with_reducible apply Blk.far); rotate_left; (focus (first | (simp; done) | (simp; omega) | omega))) | ((with_reducible apply Blk.grew); rotate_left; (with_reducible assumption)) | ((with_reducible apply Blk.turned); rotate_left; (with_reducible assumption); (focus (first | (simp; done) | (simp; omega) | omega))) | fail)); (· rfl)), by have := HT.out; (repeat' first | (with_reducible exact Turned.refl _ _) | (with_reducible assumption) | (with_reducible refine Turned.alloc ?_ _) | (with_reducible refine Turned.drew ?_) | (with_reducible refine Turned.drewN ?_ _) | (with_reducible refine Turned.setRow ?_ (by first | (simp; done) | (simp; omega) | omega) _) | (with_reducible refine Turned.setCell ?_ (by first | (simp; done) | (simp; omega) | omega) _) | ((with_reducible apply Turned.andGrew); rotate_left; (with_reducible assumption)) | ((with_reducible apply Turned.trans); rotate_left; (with_reducible assumption)) | fail)⟩
      · have HN := Lib.hid (show bestF n (N.take (k + 1)) = (bf, bc) from by rw [HST.out]; unfold bestStep; rw [if_neg (fun h => h1 h.1)])
        go_wp2_with fail
        go_roundg (N.length - (k + 1))
        case measure => rw [HGK.out]; omega
        case rel => exact ⟨k + 1, by omega, by omega, by go_num, by rw [HN.out]; have := HR2.out; (apply Blk.conv; (· (repeat' first | (with_reducible assumption) | (with_reducible apply Blk.setRow) | ((with_reducible apply Blk.farRow); rotate_left; (focus (first | (simp; done) | (simp; omega) | omega))) | (with_reducible apply Blk.drew) | (with_reducible apply Blk.drewN) | (with_reducible apply Blk.set_) | (with_reducible exact Blk.new _ _ _ (by first | rfl | (simp; done) | (simp; omega))) | (with_reducible apply Blk.alloc) | ((with_reducible apply Blk.far); rotate_left; (focus (first | (simp; done) | (simp; omega) | omega))) | ((with_reducible apply Blk.grew); rotate_left; (with_reducible assumption)) | ((with_reducible apply Blk.turned); rotate_left; (with_reducible assumption); (focus (first | (simp; done) | (simp; omega) | omega))) | fail)); (· rfl)), by have := HT.out; (repeat' first | (with_reducible exact Turned.refl _ _) | (with_reducible assumption) | (with_reducible refine Turned.alloc ?_ _) | (with_reducible refine Turned.drew ?_) | (with_reducible refine Turned.drewN ?_ _) | (with_reducible refine Turned.setRow ?_ (by first | (simp; done) | (simp; omega) | omega) _) | (with_reducible refine Turned.setCell ?_ (by first | (simp; done) | (simp; omega) | omega) _) | ((with_reducible apply Turned.andGrew); rotate_left; (with_reducible assumption)) | ((with_reducible apply Turned.trans); rotate_left; (with_reducible assumption)) | fail)⟩
    · obtain rfl : k = N.length := by omega
      rw [List.take_length] at hb6 hfb
      have hGe : Grew w wr := hG.turn ht (fun i hi => by omega)
      have HGE := Lib.hid hGe
      have y0 := hb6.cell 0
      have y1 := hb6.cell 1
      have hlb := hb6.lt
      have z0 := hb4.cell 0
      have z1 := hb4.cell 1
      have zf0 := hb4.frozen 0
      have zf1 := hb4.frozen 1
      have hlb4 := hb4.lt
      clear ht hGe
      generalize bestF n N = bb at *
      obtain ⟨bf, bc⟩ := bb
      simp only at y0 y1 hfb
      by_cases h2 : bc = 0
      · have h2b : (((bc : Nat) : Int) == 0) = true := beq_iff_eq.2 (by omega)
        have HE := Lib.hid (show bestS (memS l) n = ((0, 0), false) from by rw [HS.out]; exact if_pos (.inr h2))
        clear h2
        go_wp2_with fail
        refine bodyPost_ret (by first | (simp [*, results, Tryz.results139, go_sem]; rfl) | simp [*, results, Tryz.results139, go_sem]) rfl ?_
        rw [HE.out]
        exact ⟨rfl, by have := HGE.out; (repeat' first | (with_reducible exact Grew.refl _) | (with_reducible assumption) | (with_reducible refine Grew.alloc ?_ _) | (with_reducible refine Grew.drew ?_) | (with_reducible refine Grew.drewN ?_ _) | (with_reducible refine Grew.setRow ?_ (by first | (simp; done) | (simp; omega) | omega) _) | (with_reducible refine Grew.setCell ?_ (by first | (simp; done) | (simp; omega) | omega) _) | ((with_reducible apply Grew.trans); rotate_left; (with_reducible assumption)) | ((with_reducible apply Grew.turn); rotate_left; (with_reducible assumption); (focus (intro i hi; first | omega | (simp at hi; omega)))) | fail)⟩
      · have h2b : (((bc : Nat) : Int) == 0) = false := beq_eq_false_iff_ne.2 (by omega)
        have HE := Lib.hid (show bestS (memS l) n = (((bf : Int), n), true) from by rw [HS.out]; exact if_neg (fun h => h.elim (fun h => by omega) h2))
        clear h2
        go_wp2_with fail
        refine bodyPost_ret (by first | (simp [*, results, Tryz.results139, go_sem]; rfl) | simp [*, results, Tryz.results139, go_sem]) rfl ?_
        rw [HE.out]
        exact ⟨rfl, by have := HGE.out; (repeat' first | (with_reducible exact Grew.refl _) | (with_reducible assumption) | (with_reducible refine Grew.alloc ?_ _) | (with_reducible refine Grew.drew ?_) | (with_reducible refine Grew.drewN ?_ _) | (with_reducible refine Grew.setRow ?_ (by first | (simp; done) | (simp; omega) | omega) _) | (with_reducible refine Grew.setCell ?_ (by first | (simp; done) | (simp; omega) | omega) _) | ((with_reducible apply Grew.trans); rotate_left; (with_reducible assumption)) | ((with_reducible apply Grew.turn); rotate_left; (with_reducible assumption); (focus (intro i hi; first | omega | (simp at hi; omega)))) | fail)⟩
set_option maxRecDepth 100000 in
set_option maxHeartbeats 4000000 in
theorem rbest_any : Calls Tryz.prog 162 #[.slice A l.length c, .int .i64 n] w (BestR w (bestS (memS l) n)) := by
  have HS := Lib.hid (show bestS (memS l) n = if n < 1 ∨ (bestF n (normS (memS l))).2 = 0 then ((0, 0), false) else ((((bestF n (normS (memS l))).1 : Int), n), true) from rfl)
  have hC := fun w' (g : Grew w w') => refnormal_any A c l w' B (Nat.le_trans hB g.size) hl (hr.keep hB g)
  have hbd := normS_bd (memS l)
  have hNl := normS_len (memS l)
  generalize normS (memS l) = N at *
  have HC := Lib.hid hC
  have HBD := Lib.hid hbd
  have HFB := Lib.hid (fun k => bestF_bd n (N.take k) 128 (fun r hr => hbd r (List.mem_of_mem_take hr)))
  clear hr hC hbd
  go_enter Tryz.func162, Tryz.ntmps162
  go_wp2_with fail
  refine (HC.out _ (by (repeat' first | (with_reducible exact Grew.refl _) | (with_reducible assumption) | (with_reducible refine Grew.alloc ?_ _) | (with_reducible refine Grew.drew ?_) | (with_reducible refine Grew.drewN ?_ _) | (with_reducible refine Grew.setRow ?_ (by first | (simp; done) | (simp; omega) | omega) _) | (with_reducible refine Grew.setCell ?_ (by first | (simp; done) | (simp; omega) | omega) _) | ((with_reducible apply Grew.trans); rotate_left; (with_reducible assumption)) | ((with_reducible apply Grew.turn); rotate_left; (with_reducible assumption); (focus (intro i hi; first | omega | (simp at hi; omega)))) | fail))).mono ?_
  rintro e w1 ⟨v, rfl, hown, g1⟩
  have HB4 := ((Blk.new w 65 #[.int .i64 0, .int .i64 0] rfl).grew g1).alloc (.cells #[.int .i64 0, .int .i64 0] 65)
  have hG : Grew w w1 := ((Grew.refl w).alloc _).trans g1
  have hw1 : w.heap.size < w1.heap.size := by have := g1.size; simp at this; omega
  obtain ⟨A', c', hv, hr', _, _, hA'⟩ := own_runs2 hown (fun r hr => Nat.le_trans (HBD.out r hr) (by omega))
  subst hv
  have HB6 := Blk.new w1 65 #[.int .i64 0, .int .i64 0] rfl
  have hr2 := hr'.keep (Nat.le_refl _) ((Grew.refl w1).alloc (.cells #[.int .i64 0, .int .i64 0] 65))
  have HR := Lib.hid hr2
  obtain ⟨w2, hw2⟩ : ∃ w2, w2 = w1.alloc (.cells #[.int .i64 0, .int .i64 0] 65) := ⟨_, rfl⟩
  have hw2s : w2.heap.size = w1.heap.size + 1 := by rw [hw2]; simp
  replace hG := hG.alloc (.cells #[.int .i64 0, .int .i64 0] 65)
  rw [← hw2] at HR HB4 HB6 hG
  have HB4' := Lib.hid HB4
  have HA := Lib.hid (show ∀ b off, A' = some ⟨b, off, none⟩ → ¬ b = w1.heap.size from fun b off e => by have := (hA' b off e).2; omega)
  clear hown hr' HC g1 hA' HB4 hr2
  go_wp2_with fail
  rw [← hw2]
  go_loopg [8] N.length (fun gk i wr => ∃ k : Nat, k ≤ N.length ∧ gk = N.length - k ∧ i = .int .i64 k ∧ (n < 1 → k = 0) ∧ Blk wr w1.heap.size 65 #[.int .i64 ((bestF n (N.take k)).1 : Int), .int .i64 ((bestF n (N.take k)).2 : Int)] ∧ Turned (fun i => i = w1.heap.size) w2 wr)
  case atStart => exact ⟨0, by omega, by omega, rfl, fun _ => rfl, HB6, Turned.refl _ _⟩
  case round =>
    obtain ⟨k, hk, hgk, rfl, hnk, hb6, ht⟩ := hrel
    have HGK := Lib.hid hgk
    have HT := Lib.hid ht
    have hb4 := HB4'.out.turned ht (by omega)
    clear hgk
    have hfb := HFB.out k
    have hts := ht.size
    by_cases hn : n < 1
    · obtain rfl := hnk hn
      have HE := Lib.hid (show bestS (memS l) n = ((0, 0), false) from by rw [HS.out]; exact if_pos (.inl hn))
      have hGe : Grew w wr := hG.turn ht (fun i hi => by omega)
      have HGE := Lib.hid hGe
      have hb6 : Blk wr w1.heap.size 65 #[.int .i64 0, .int .i64 0] := hb6
      have y0 := hb6.cell 0
      have y1 := hb6.cell 1
      have hlb := hb6.lt
      have z0 := hb4.cell 0
      have z1 := hb4.cell 1
      have zf0 := hb4.frozen 0
      have zf1 := hb4.frozen 1
      have hlb4 := hb4.lt
      clear ht hGe
      by_cases h0 : 0 < N.length
      all_goals
        go_wp2_with fail
        refine bodyPost_ret (by first | (simp [*, results, Tryz.results162, go_sem]; rfl) | simp [*, results, Tryz.results162, go_sem]) rfl ?_
        rw [HE.out]
        exact ⟨rfl, by have := HGE.out; (repeat' first | (with_reducible exact Grew.refl _) | (with_reducible assumption) | (with_reducible refine Grew.alloc ?_ _) | (with_reducible refine Grew.drew ?_) | (with_reducible refine Grew.drewN ?_ _) | (with_reducible refine Grew.setRow ?_ (by first | (simp; done) | (simp; omega) | omega) _) | (with_reducible refine Grew.setCell ?_ (by first | (simp; done) | (simp; omega) | omega) _) | ((with_reducible apply Grew.trans); rotate_left; (with_reducible assumption)) | ((with_reducible apply Grew.turn); rotate_left; (with_reducible assumption); (focus (intro i hi; first | omega | (simp at hi; omega)))) | fail)⟩
    by_cases hlt : k < N.length
    · obtain ⟨b, off, rfl, hb, x0, x1⟩ := runs_nat (HR.out.turned (by omega) ht HA.out) hlt
      have hbs : b < wr.heap.size := by omega
      have hnb : ¬ b = w1.heap.size := HA.out b off rfl
      have hrb := HBD.out _ (List.getElem_mem hlt)
      have HST := Lib.hid (bestF_snoc n N k hlt)
      have y0 := hb6.cell 0
      have y1 := hb6.cell 1
      have yf0 := hb6.frozen 0
      have yf1 := hb6.frozen 1
      have hlb := hb6.lt
      have hgs := hG.size
      generalize N[k] = r at *
      obtain ⟨rf, rc⟩ := r
      generalize bestF n (N.take k) = bb at *
      obtain ⟨bf, bc⟩ := bb
      simp only at x0 x1 y0 y1 hrb hfb
      clear ht
      have HR2 := Lib.hid hb6
      by_cases h1 : n ≤ (rc : Int)
      · by_cases h2 : bc = 0
        · have h2b : (((bc : Nat) : Int) == 0) = true := beq_iff_eq.2 (by omega)
          have HN := Lib.hid (show bestF n (N.take (k + 1)) = (rf, rc) from by rw [HST.out]; unfold bestStep; rw [if_pos ⟨h1, .inl h2⟩])
          clear h2
          go_wp2_with fail
          refine wp_region_R [] (fun w' : World => w'.cell? ⟨b, off + k * 2 + 1, none⟩ = some (.int .i64 (rc : Int)) ∧ w'.cell? ⟨w1.heap.size, 1, none⟩ = some (.int .i64 (bc : Int))) (by kernel_rfl) ?_
          have hS := (show (fun w' : World => w'.cell? ⟨b, off + k * 2 + 1, none⟩ = some (.int .i64 (rc : Int)) ∧ w'.cell? ⟨w1.heap.size, 1, none⟩ = some (.int .i64 (bc : Int))) wr.drew from ⟨x1, y1⟩)
          refine wpAnyR_takeQ (i := 0) (v := ?_) (some 22) rfl rfl (by kernel_rfl) (by kernel_rfl) (by kernel_rfl) (by kernel_rfl) (fun _ _ _ h => h) (Or.inl ⟨by rfl, ?_⟩) ?_
          rotate_left
          focus (intro wS hSw; (try dsimp only at hSw); go_simp; (try with_reducible rfl); (try (first | (rw [if_pos (by omega)]; (try go_simp); (try with_reducible rfl)) | (rw [if_neg (by omega)]; (try go_simp); (try with_reducible rfl)))))
          try simp only [Act.put, zA, zB, zC]
          refine wpAnyR_takeQ (i := 1) (v := ?_) (some 23) rfl rfl (by kernel_rfl) (by kernel_rfl) (by kernel_rfl) (by kernel_rfl) (fun _ _ _ h => h) (Or.inl ⟨by rfl, ?_⟩) ?_
          rotate_left
          focus (intro wS hSw; (try dsimp only at hSw); go_simp; (try with_reducible rfl); (try (first | (rw [if_pos (by omega)]; (try go_simp); (try with_reducible rfl)) | (rw [if_neg (by omega)]; (try go_simp); (try with_reducible rfl)))))
          try simp only [Act.put, zA, zB, zC]
          refine wpAnyR_takeQ (i := 2) (v := ?_) (some 24) rfl rfl (by kernel_rfl) (by kernel_rfl) (by kernel_rfl) (by kernel_rfl) (fun _ _ _ h => h) (Or.inl ⟨by rfl, ?_⟩) ?_
          rotate_left
          focus (intro wS hSw; (try dsimp only at hSw); go_simp; (try with_reducible rfl); (try (first | (rw [if_pos (by omega)]; (try go_simp); (try with_reducible rfl)) | (rw [if_neg (by omega)]; (try go_simp); (try with_reducible rfl)))))
          try simp only [Act.put, zA, zB, zC]
          refine wpAnyR_takeQ (i := 3) (v := ?_) (some 25) rfl rfl (by kernel_rfl) (by kernel_rfl) (by kernel_rfl) (by kernel_rfl) (fun _ _ _ h => h) (Or.inl ⟨by rfl, ?_⟩) ?_
          rotate_left
          focus (intro wS hSw; (try dsimp only at hSw); go_simp; (try with_reducible rfl); (try (first | (rw [if_pos (by omega)]; (try go_simp); (try with_reducible rfl)) | (rw [if_neg (by omega)]; (try go_simp); (try with_reducible rfl)))))
          try simp only [Act.put, zA, zB, zC]
          refine wpAnyR_take (i := 4) (v := ?_) [6, 7, 8, 9, 10, 11, 12, 13, 14, 15, 16, 17, 18, 19, 20, 21] (some 26) rfl rfl (by kernel_rfl) (by kernel_rfl) (by kernel_rfl) (by kernel_rfl) (by kernel_rfl) (by kernel_rfl) (by kernel_rfl) (fun _ _ _ h => h) (Or.inl ⟨by rfl, ?_⟩) hS ?_
          rotate_left
          focus (intro wS hSw; (try dsimp only at hSw); go_simp; (try with_reducible rfl); (try (first | (rw [if_pos (by omega)]; (try go_simp); (try with_reducible rfl)) | (rw [if_neg (by omega)]; (try go_simp); (try with_reducible rfl)))))
          try simp only [Act.put, zA, zB, zC]
          refine wpAnyR_takeQ (i := 5) (v := ?_) (some 27) rfl rfl (by kernel_rfl) (by kernel_rfl) (by kernel_rfl) (by kernel_rfl) (fun _ _ _ h => h) (Or.inl ⟨by rfl, ?_⟩) ?_
          rotate_left
          focus (intro wS hSw; (try dsimp only at hSw); go_simp; (try with_reducible rfl); (try (first | (rw [if_pos (by omega)]; (try go_simp); (try with_reducible rfl)) | (rw [if_neg (by omega)]; (try go_simp); (try with_reducible rfl)))))
          try simp only [Act.put, zA, zB, zC]
          refine wpAnyR_takeQ (i := 6) (v := ?_) (some 28) rfl rfl (by kernel_rfl) (by kernel_rfl) (by kernel_rfl) (by kernel_rfl) (fun _ _ _ h => h) (Or.inl ⟨by rfl, ?_⟩) ?_
          rotate_left
          focus (intro wS hSw; (try dsimp only at hSw); go_simp; (try with_reducible rfl); (try (first | (rw [if_pos (by omega)]; (try go_simp); (try with_reducible rfl)) | (rw [if_neg (by omega)]; (try go_simp); (try with_reducible rfl)))))
          try simp only [Act.put, zA, zB, zC]
          try rw [show decide (n ≤ (rc : Int)) = true from decide_eq_true (by omega)]
          refine wpAnyR_takeQ (i := 7) (v := ?_) (some 29) rfl rfl (by kernel_rfl) (by kernel_rfl) (by kernel_rfl) (by kernel_rfl) (fun _ _ _ h => h) (Or.inl ⟨by rfl, ?_⟩) ?_
          rotate_left
          focus (intro wS hSw; (try dsimp only at hSw); go_simp; (try with_reducible rfl); (try (first | (rw [if_pos (by omega)]; (try go_simp); (try with_reducible rfl)) | (rw [if_neg (by omega)]; (try go_simp); (try with_reducible rfl)))))
          try simp only [Act.put, zA, zB, zC]
          refine wpAnyR_takeQ (i := 8) (v := ?_) (some 30) rfl rfl (by kernel_rfl) (by kernel_rfl) (by kernel_rfl) (by kernel_rfl) (fun _ _ _ h => h) (Or.inl ⟨by rfl, ?_⟩) ?_
          rotate_left
          focus (intro wS hSw; (try dsimp only at hSw); go_simp; (try with_reducible rfl); (try (first | (rw [if_pos (by omega)]; (try go_simp); (try with_reducible rfl)) | (rw [if_neg (by omega)]; (try go_simp); (try with_reducible rfl)))))
          try simp only [Act.put, zA, zB, zC]
          refine wpAnyR_take (i := 9) (v := ?_) [10, 11, 12, 13, 14, 15, 16, 17, 18, 19, 20, 21] (some 31) rfl rfl (by kernel_rfl) (by kernel_rfl) (by kernel_rfl) (by kernel_rfl) (by kernel_rfl) (by kernel_rfl) (by kernel_rfl) (fun _ _ _ h => h) (Or.inl ⟨by rfl, ?_⟩) hS ?_
          rotate_left
          focus (intro wS hSw; (try dsimp only at hSw); go_simp; (try with_reducible rfl); (try (first | (rw [if_pos (by omega)]; (try go_simp); (try with_reducible rfl)) | (rw [if_neg (by omega)]; (try go_simp); (try with_reducible rfl)))))
          try simp only [Act.put, zA, zB, zC]
          refine wpAnyR_takeQ (i := 10) (v := ?_) (some 32) rfl rfl (by kernel_rfl) (by kernel_rfl) (by kernel_rfl) (by kernel_rfl) (fun _ _ _ h => h) (Or.inl ⟨by rfl, ?_⟩) ?_
          rotate_left
          focus (intro wS hSw; (try dsimp only at hSw); go_simp; (try with_reducible rfl); (try (first | (rw [if_pos (by omega)]; (try go_simp); (try with_reducible rfl)) | (rw [if_neg (by omega)]; (try go_simp); (try with_reducible rfl)))))
          try simp only [Act.put, zA, zB, zC]
          try rw [h2b]
          refine wpAnyR_takeQ (i := 11) (v := ?_) (some 33) rfl rfl (by kernel_rfl) (by kernel_rfl) (by kernel_rfl) (by kernel_rfl) (fun _ _ _ h => h) (Or.inl ⟨by rfl, ?_⟩) ?_
          rotate_left
          focus (intro wS hSw; (try dsimp only at hSw); go_simp; (try with_reducible rfl); (try (first | (rw [if_pos (by omega)]; (try go_simp); (try with_reducible rfl)) | (rw [if_neg (by omega)]; (try go_simp); (try with_reducible rfl)))))
          try simp only [Act.put, zA, zB, zC]
          refine wpAnyR_takeQ (i := 12) (v := undef) (some 34) rfl rfl (by kernel_rfl) (by kernel_rfl) (by kernel_rfl) (by kernel_rfl) (fun _ _ _ h => h) (Or.inr ⟨by rfl, rfl⟩) ?_
          try simp only [Act.put, zA, zB, zC]
          refine wpAnyR_takeQ (i := 13) (v := undef) (some 35) rfl rfl (by kernel_rfl) (by kernel_rfl) (by kernel_rfl) (by kernel_rfl) (fun _ _ _ h => h) (Or.inr ⟨by rfl, rfl⟩) ?_
          try simp only [Act.put, zA, zB, zC]
          refine wpAnyR_takeQ (i := 14) (v := undef) (some 36) rfl rfl (by kernel_rfl) (by kernel_rfl) (by kernel_rfl) (by kernel_rfl) (fun _ _ _ h => h) (Or.inr ⟨by rfl, rfl⟩) ?_
          try simp only [Act.put, zA, zB, zC]
          refine wpAnyR_takeQ (i := 15) (v := undef) (some 37) rfl rfl (by kernel_rfl) (by kernel_rfl) (by kernel_rfl) (by kernel_rfl) (fun _ _ _ h => h) (Or.inr ⟨by rfl, rfl⟩) ?_
          try simp only [Act.put, zA, zB, zC]
          refine wpAnyR_takeQ (i := 16) (v := undef) (some 38) rfl rfl (by kernel_rfl) (by kernel_rfl) (by kernel_rfl) (by kernel_rfl) (fun _ _ _ h => h) (Or.inr ⟨by rfl, rfl⟩) ?_
          try simp only [Act.put, zA, zB, zC]
          refine wpAnyR_takeQ (i := 17) (v := undef) (some 39) rfl rfl (by kernel_rfl) (by kernel_rfl) (by kernel_rfl) (by kernel_rfl) (fun _ _ _ h => h) (Or.inr ⟨by rfl, rfl⟩) ?_
          try simp only [Act.put, zA, zB, zC]
          refine wpAnyR_takeQ (i := 18) (v := undef) (some 40) rfl rfl (by kernel_rfl) (by kernel_rfl) (by kernel_rfl) (by kernel_rfl) (fun _ _ _ h => h) (Or.inr ⟨by rfl, rfl⟩) ?_
          try simp only [Act.put, zA, zB, zC]
          refine wpAnyR_takeQ (i := 19) (v := undef) (some 41) rfl rfl (by kernel_rfl) (by kernel_rfl) (by kernel_rfl) (by kernel_rfl) (fun _ _ _ h => h) (Or.inr ⟨by rfl, rfl⟩) ?_
          try simp only [Act.put, zA, zB, zC]
          refine wpAnyR_takeQ (i := 20) (v := ?_) (some 42) rfl rfl (by kernel_rfl) (by kernel_rfl) (by kernel_rfl) (by kernel_rfl) (fun _ _ _ h => h) (Or.inl ⟨by rfl, ?_⟩) ?_
          rotate_left
          focus (intro wS hSw; (try dsimp only at hSw); go_simp; (try with_reducible rfl); (try (first | (rw [if_pos (by omega)]; (try go_simp); (try with_reducible rfl)) | (rw [if_neg (by omega)]; (try go_simp); (try with_reducible rfl)))))
          try simp only [Act.put, zA, zB, zC]
          refine wpAnyR_takeQ (i := 21) (v := ?_) (some 43) rfl rfl (by kernel_rfl) (by kernel_rfl) (by kernel_rfl) (by kernel_rfl) (fun _ _ _ h => h) (Or.inl ⟨by rfl, ?_⟩) ?_
          rotate_left
          focus (intro wS hSw; (try dsimp only at hSw); go_simp; (try with_reducible rfl); (try (first | (rw [if_pos (by omega)]; (try go_simp); (try with_reducible rfl)) | (rw [if_neg (by omega)]; (try go_simp); (try with_reducible rfl)))))
          try simp only [Act.put, zA, zB, zC]
          refine wpAnyR_done (by kernel_rfl) ?_ _
          go_wp2_with fail
          go_roundg (N.length - (k + 1))
          case measure => rw [HGK.out]; omega
          case rel => exact ⟨k + 1, by omega, by omega, by go_num, fun h => absurd h (by omega), by rw [HN.out]; have := HR2.out; (apply Blk.conv; (· (repeat' first | (with_reducible assumption) | (with_reducible apply Blk.setRow) | ((with_reducible apply Blk.farRow); rotate_left; (focus (first | (simp; done) | (simp; omega) | omega))) | (with_reducible apply Blk.drew) | (with_reducible apply Blk.drewN) | (with_reducible apply Blk.set_) | (with_reducible exact Blk.new _ _ _ (by first | rfl | (simp; done) | (simp; omega))) | (with_reducible apply Blk.alloc) | ((with_reducible apply Blk.far); rotate_left; (focus (first | (simp; done) | (simp; omega) | omega))) | ((with_reducible apply Blk.grew); rotate_left; (with_reducible assumption)) | ((with_reducible apply Blk.turned); rotate_left; (with_reducible assumption); (focus (first | (simp; done) | (simp; omega) | omega))) | fail)); (· rfl)), by have := HT.out; (repeat' first | (with_reducible exact Turned.refl _ _) | (with_reducible assumption) | (with_reducible refine Turned.alloc ?_ _) | (with_reducible refine Turned.drew ?_) | (with_reducible refine Turned.drewN ?_ _) | (with_reducible refine Turned.setRow ?_ (by first | (simp; done) | (simp; omega) | omega) _) | (with_reducible refine Turned.setCell ?_ (by first | (simp; done) | (simp; omega) | omega) _) | ((with_reducible apply Turned.andGrew); rotate_left; (with_reducible assumption)) | ((with_reducible apply Turned.trans); rotate_left; (with_reducible assumption)) | fail)⟩
        · have h2b : (((bc : Nat) : Int) == 0) = false := beq_eq_false_iff_ne.2 (by omega)
          by_cases h3 : rc < bc
          · have HN := Lib.hid (show bestF n (N.take (k + 1)) = (rf, rc) from by rw [HST.out]; unfold bestStep; rw [if_pos ⟨h1, .inr h3⟩])
            clear h2
            go_wp2_with fail
            refine wp_region_R [] (fun w' : World => w'.cell? ⟨b, off + k * 2 + 1, none⟩ = some (.int .i64 (rc : Int)) ∧ w'.cell? ⟨w1.heap.size, 1, none⟩ = some (.int .i64 (bc : Int))) (by kernel_rfl) ?_
            have hS := (show (fun w' : World => w'.cell? ⟨b, off + k * 2 + 1, none⟩ = some (.int .i64 (rc : Int)) ∧ w'.cell? ⟨w1.heap.size, 1, none⟩ = some (.int .i64 (bc : Int))) wr.drew from ⟨x1, y1⟩)
            refine wpAnyR_takeQ (i := 0) (v := ?_) (some 22) rfl rfl (by kernel_rfl) (by kernel_rfl) (by kernel_rfl) (by kernel_rfl) (fun _ _ _ h => h) (Or.inl ⟨by rfl, ?_⟩) ?_
            rotate_left
            focus (intro wS hSw; (try dsimp only at hSw); go_simp; (try with_reducible rfl); (try (first | (rw [if_pos (by omega)]; (try go_simp); (try with_reducible rfl)) | (rw [if_neg (by omega)]; (try go_simp); (try with_reducible rfl)))))
            try simp only [Act.put, zA, zB, zC]
            refine wpAnyR_takeQ (i := 1) (v := ?_) (some 23) rfl rfl (by kernel_rfl) (by kernel_rfl) (by kernel_rfl) (by kernel_rfl) (fun _ _ _ h => h) (Or.inl ⟨by rfl, ?_⟩) ?_
            rotate_left
            focus (intro wS hSw; (try dsimp only at hSw); go_simp; (try with_reducible rfl); (try (first | (rw [if_pos (by omega)]; (try go_simp); (try with_reducible rfl)) | (rw [if_neg (by omega)]; (try go_simp); (try with_reducible rfl)))))
            try simp only [Act.put, zA, zB, zC]
            refine wpAnyR_takeQ (i := 2) (v := ?_) (some 24) rfl rfl (by kernel_rfl) (by kernel_rfl) (by kernel_rfl) (by kernel_rfl) (fun _ _ _ h => h) (Or.inl ⟨by rfl, ?_⟩) ?_
            rotate_left
            focus (intro wS hSw; (try dsimp only at hSw); go_simp; (try with_reducible rfl); (try (first | (rw [if_pos (by omega)]; (try go_simp); (try with_reducible rfl)) | (rw [if_neg (by omega)]; (try go_simp); (try with_reducible rfl)))))
            try simp only [Act.put, zA, zB, zC]
            refine wpAnyR_takeQ (i := 3) (v := ?_) (some 25) rfl rfl (by kernel_rfl) (by kernel_rfl) (by kernel_rfl) (by kernel_rfl) (fun _ _ _ h => h) (Or.inl ⟨by rfl, ?_⟩) ?_
            rotate_left
            focus (intro wS hSw; (try dsimp only at hSw); go_simp; (try with_reducible rfl); (try (first | (rw [if_pos (by omega)]; (try go_simp); (try with_reducible rfl)) | (rw [if_neg (by omega)]; (try go_simp); (try with_reducible rfl)))))
            try simp only [Act.put, zA, zB, zC]
            refine wpAnyR_take (i := 4) (v := ?_) [6, 7, 8, 9, 10, 11, 12, 13, 14, 15, 16, 17, 18, 19, 20, 21] (some 26) rfl rfl (by kernel_rfl) (by kernel_rfl) (by kernel_rfl) (by kernel_rfl) (by kernel_rfl) (by kernel_rfl) (by kernel_rfl) (fun _ _ _ h => h) (Or.inl ⟨by rfl, ?_⟩) hS ?_
            rotate_left
            focus (intro wS hSw; (try dsimp only at hSw); go_simp; (try with_reducible rfl); (try (first | (rw [if_pos (by omega)]; (try go_simp); (try with_reducible rfl)) | (rw [if_neg (by omega)]; (try go_simp); (try with_reducible rfl)))))
            try simp only [Act.put, zA, zB, zC]
            refine wpAnyR_takeQ (i := 5) (v := ?_) (some 27) rfl rfl (by kernel_rfl) (by kernel_rfl) (by kernel_rfl) (by kernel_rfl) (fun _ _ _ h => h) (Or.inl ⟨by rfl, ?_⟩) ?_
            rotate_left
            focus (intro wS hSw; (try dsimp only at hSw); go_simp; (try with_reducible rfl); (try (first | (rw [if_pos (by omega)]; (try go_simp); (try with_reducible rfl)) | (rw [if_neg (by omega)]; (try go_simp); (try with_reducible rfl)))))
            try simp only [Act.put, zA, zB, zC]
            refine wpAnyR_takeQ (i := 6) (v := ?_) (some 28) rfl rfl (by kernel_rfl) (by kernel_rfl) (by kernel_rfl) (by kernel_rfl) (fun _ _ _ h => h) (Or.inl ⟨by rfl, ?_⟩) ?_
            rotate_left
            focus (intro wS hSw; (try dsimp only at hSw); go_simp; (try with_reducible rfl); (try (first | (rw [if_pos (by omega)]; (try go_simp); (try with_reducible rfl)) | (rw [if_neg (by omega)]; (try go_simp); (try with_reducible rfl)))))
            try simp only [Act.put, zA, zB, zC]
            try rw [show decide (n ≤ (rc : Int)) = true from decide_eq_true (by omega)]
            refine wpAnyR_takeQ (i := 7) (v := ?_) (some 29) rfl rfl (by kernel_rfl) (by kernel_rfl) (by kernel_rfl) (by kernel_rfl) (fun _ _ _ h => h) (Or.inl ⟨by rfl, ?_⟩) ?_
            rotate_left
            focus (intro wS hSw; (try dsimp only at hSw); go_simp; (try with_reducible rfl); (try (first | (rw [if_pos (by omega)]; (try go_simp); (try with_reducible rfl)) | (rw [if_neg (by omega)]; (try go_simp); (try with_reducible rfl)))))
            try simp only [Act.put, zA, zB, zC]
            refine wpAnyR_takeQ (i := 8) (v := ?_) (some 30) rfl rfl (by kernel_rfl) (by kernel_rfl) (by kernel_rfl) (by kernel_rfl) (fun _ _ _ h => h) (Or.inl ⟨by rfl, ?_⟩) ?_
            rotate_left
            focus (intro wS hSw; (try dsimp only at hSw); go_simp; (try with_reducible rfl); (try (first | (rw [if_pos (by omega)]; (try go_simp); (try with_reducible rfl)) | (rw [if_neg (by omega)]; (try go_simp); (try with_reducible rfl)))))
            try simp only [Act.put, zA, zB, zC]
            refine wpAnyR_take (i := 9) (v := ?_) [10, 11, 12, 13, 14, 15, 16, 17, 18, 19, 20, 21] (some 31) rfl rfl (by kernel_rfl) (by kernel_rfl) (by kernel_rfl) (by kernel_rfl) (by kernel_rfl) (by kernel_rfl) (by kernel_rfl) (fun _ _ _ h => h) (Or.inl ⟨by rfl, ?_⟩) hS ?_
            rotate_left
            focus (intro wS hSw; (try dsimp only at hSw); go_simp; (try with_reducible rfl); (try (first | (rw [if_pos (by omega)]; (try go_simp); (try with_reducible rfl)) | (rw [if_neg (by omega)]; (try go_simp); (try with_reducible rfl)))))
            try simp only [Act.put, zA, zB, zC]
            refine wpAnyR_takeQ (i := 10) (v := ?_) (some 32) rfl rfl (by kernel_rfl) (by kernel_rfl) (by kernel_rfl) (by kernel_rfl) (fun _ _ _ h => h) (Or.inl ⟨by rfl, ?_⟩) ?_
            rotate_left
            focus (intro wS hSw; (try dsimp only at hSw); go_simp; (try with_reducible rfl); (try (first | (rw [if_pos (by omega)]; (try go_simp); (try with_reducible rfl)) | (rw [if_neg (by omega)]; (try go_simp); (try with_reducible rfl)))))
            try simp only [Act.put, zA, zB, zC]
            try rw [h2b]
            refine wpAnyR_takeQ (i := 11) (v := ?_) (some 33) rfl rfl (by kernel_rfl) (by kernel_rfl) (by kernel_rfl) (by kernel_rfl) (fun _ _ _ h => h) (Or.inl ⟨by rfl, ?_⟩) ?_
            rotate_left
            focus (intro wS hSw; (try dsimp only at hSw); go_simp; (try with_reducible rfl); (try (first | (rw [if_pos (by omega)]; (try go_simp); (try with_reducible rfl)) | (rw [if_neg (by omega)]; (try go_simp); (try with_reducible rfl)))))
            try simp only [Act.put, zA, zB, zC]
            refine wpAnyR_takeQ (i := 12) (v := ?_) (some 34) rfl rfl (by kernel_rfl) (by kernel_rfl) (by kernel_rfl) (by kernel_rfl) (fun _ _ _ h => h) (Or.inl ⟨by rfl, ?_⟩) ?_
            rotate_left
            focus (intro wS hSw; (try dsimp only at hSw); go_simp; (try with_reducible rfl); (try (first | (rw [if_pos (by omega)]; (try go_simp); (try with_reducible rfl)) | (rw [if_neg (by omega)]; (try go_simp); (try with_reducible rfl)))))
            try simp only [Act.put, zA, zB, zC]
            refine wpAnyR_takeQ (i := 13) (v := ?_) (some 35) rfl rfl (by kernel_rfl) (by kernel_rfl) (by kernel_rfl) (by kernel_rfl) (fun _ _ _ h => h) (Or.inl ⟨by rfl, ?_⟩) ?_
            rotate_left
            focus (intro wS hSw; (try dsimp only at hSw); go_simp; (try with_reducible rfl); (try (first | (rw [if_pos (by omega)]; (try go_simp); (try with_reducible rfl)) | (rw [if_neg (by omega)]; (try go_simp); (try with_reducible rfl)))))
            try simp only [Act.put, zA, zB, zC]
            refine wpAnyR_takeQ (i := 14) (v := ?_) (some 36) rfl rfl (by kernel_rfl) (by kernel_rfl) (by kernel_rfl) (by kernel_rfl) (fun _ _ _ h => h) (Or.inl ⟨by rfl, ?_⟩) ?_
            rotate_left
            focus (intro wS hSw; (try dsimp only at hSw); go_simp; (try with_reducible rfl); (try (first | (rw [if_pos (by omega)]; (try go_simp); (try with_reducible rfl)) | (rw [if_neg (by omega)]; (try go_simp); (try with_reducible rfl)))))
            try simp only [Act.put, zA, zB, zC]
            refine wpAnyR_takeQ (i := 15) (v := ?_) (some 37) rfl rfl (by kernel_rfl) (by kernel_rfl) (by kernel_rfl) (by kernel_rfl) (fun _ _ _ h => h) (Or.inl ⟨by rfl, ?_⟩) ?_
            rotate_left
            focus (intro wS hSw; (try dsimp only at hSw); go_simp; (try with_reducible rfl); (try (first | (rw [if_pos (by omega)]; (try go_simp); (try with_reducible rfl)) | (rw [if_neg (by omega)]; (try go_simp); (try with_reducible rfl)))))
            try simp only [Act.put, zA, zB, zC]
            refine wpAnyR_take (i := 16) (v := ?_) [19, 20, 21] (some 38) rfl rfl (by kernel_rfl) (by kernel_rfl) (by kernel_rfl) (by kernel_rfl) (by kernel_rfl) (by kernel_rfl) (by kernel_rfl) (fun _ _ _ h => h) (Or.inl ⟨by rfl, ?_⟩) hS ?_
            rotate_left
            focus (intro wS hSw; (try dsimp only at hSw); go_simp; (try with_reducible rfl); (try (first | (rw [if_pos (by omega)]; (try go_simp); (try with_reducible rfl)) | (rw [if_neg (by omega)]; (try go_simp); (try with_reducible rfl)))))
            try simp only [Act.put, zA, zB, zC]
            refine wpAnyR_takeQ (i := 17) (v := ?_) (some 39) rfl rfl (by kernel_rfl) (by kernel_rfl) (by kernel_rfl) (by kernel_rfl) (fun _ _ _ h => h) (Or.inl ⟨by rfl, ?_⟩) ?_
            rotate_left
            focus (intro wS hSw; (try dsimp only at hSw); go_simp; (try with_reducible rfl); (try (first | (rw [if_pos (by omega)]; (try go_simp); (try with_reducible rfl)) | (rw [if_neg (by omega)]; (try go_simp); (try with_reducible rfl)))))
            try simp only [Act.put, zA, zB, zC]
            refine wpAnyR_take (i := 18) (v := ?_) [19, 20, 21] (some 40) rfl rfl (by kernel_rfl) (by kernel_rfl) (by kernel_rfl) (by kernel_rfl) (by kernel_rfl) (by kernel_rfl) (by kernel_rfl) (fun _ _ _ h => h) (Or.inl ⟨by rfl, ?_⟩) hS ?_
            rotate_left
            focus (intro wS hSw; (try dsimp only at hSw); go_simp; (try with_reducible rfl); (try (first | (rw [if_pos (by omega)]; (try go_simp); (try with_reducible rfl)) | (rw [if_neg (by omega)]; (try go_simp); (try with_reducible rfl)))))
            try simp only [Act.put, zA, zB, zC]
            refine wpAnyR_takeQ (i := 19) (v := ?_) (some 41) rfl rfl (by kernel_rfl) (by kernel_rfl) (by kernel_rfl) (by kernel_rfl) (fun _ _ _ h => h) (Or.inl ⟨by rfl, ?_⟩) ?_
            rotate_left
            focus (intro wS hSw; (try dsimp only at hSw); go_simp; (try with_reducible rfl); (try (first | (rw [if_pos (by omega)]; (try go_simp); (try with_reducible rfl)) | (rw [if_neg (by omega)]; (try go_simp); (try with_reducible rfl)))))
            try simp only [Act.put, zA, zB, zC]
            try rw [show decide ((rc : Int) < (bc : Int)) = true from decide_eq_true (by omega)]
            refine wpAnyR_takeQ (i := 20) (v := ?_) (some 42) rfl rfl (by kernel_rfl) (by kernel_rfl) (by kernel_rfl) (by kernel_rfl) (fun _ _ _ h => h) (Or.inl ⟨by rfl, ?_⟩) ?_
            rotate_left
            focus (intro wS hSw; (try dsimp only at hSw); go_simp; (try with_reducible rfl); (try (first | (rw [if_pos (by omega)]; (try go_simp); (try with_reducible rfl)) | (rw [if_neg (by omega)]; (try go_simp); (try with_reducible rfl)))))
            try simp only [Act.put, zA, zB, zC]
            refine wpAnyR_takeQ (i := 21) (v := ?_) (some 43) rfl rfl (by kernel_rfl) (by kernel_rfl) (by kernel_rfl) (by kernel_rfl) (fun _ _ _ h => h) (Or.inl ⟨by rfl, ?_⟩) ?_
            rotate_left
            focus (intro wS hSw; (try dsimp only at hSw); go_simp; (try with_reducible rfl); (try (first | (rw [if_pos (by omega)]; (try go_simp); (try with_reducible rfl)) | (rw [if_neg (by omega)]; (try go_simp); (try with_reducible rfl)))))
            try simp only [Act.put, zA, zB, zC]
            refine wpAnyR_done (by kernel_rfl) ?_ _
            go_wp2_with fail
            go_roundg (N.length - (k + 1))
            case measure => rw [HGK.out]; omega
            case rel => exact ⟨k + 1, by omega, by omega, by go_num, fun h => absurd h (by omega), by rw [HN.out]; have := HR2.out; (apply Blk.conv; (· (repeat' first | (with_reducible assumption) | (with_reducible apply Blk.setRow) | ((with_reducible apply Blk.farRow); rotate_left; (focus (first | (simp; done) | (simp; omega) | omega))) | (with_reducible apply Blk.drew) | (with_reducible apply Blk.drewN) | (with_reducible apply Blk.set_) | (with_reducible exact Blk.new _ _ _ (by first | rfl | (simp; done) | (simp; omega))) | (with_reducible apply Blk.alloc) | ((with_reducible apply Blk.far); rotate_left; (focus (first | (simp; done) | (simp; omega) | omega))) | ((with_reducible apply Blk.grew); rotate_left; (with_reducible assumption)) | ((with_reducible apply Blk.turned); rotate_left; (with_reducible assumption); (focus (first | (simp; done) | (simp; omega) | omega))) | fail)); (· rfl)), by have := HT.out; (repeat' first | (with_reducible exact Turned.refl _ _) | (with_reducible assumption) | (with_reducible refine Turned.alloc ?_ _) | (with_reducible refine Turned.drew ?_) | (with_reducible refine Turned.drewN ?_ _) | (with_reducible refine Turned.setRow ?_ (by first | (simp; done) | (simp; omega) | omega) _) | (with_reducible refine Turned.setCell ?_ (by first | (simp; done) | (simp; omega) | omega) _) | ((with_reducible apply Turned.andGrew); rotate_left; (with_reducible assumption)) | ((with_reducible apply Turned.trans); rotate_left; (with_reducible assumption)) | fail)⟩
          · have HN := Lib.hid (show bestF n (N.take (k + 1)) = (bf, bc) from by rw [HST.out]; unfold bestStep; rw [if_neg (fun h => h.2.elim h2 h3)])
            clear h2
            go_wp2_with fail
            refine wp_region_R [] (fun w' : World => w'.cell? ⟨b, off + k * 2 + 1, none⟩ = some (.int .i64 (rc : Int)) ∧ w'.cell? ⟨w1.heap.size, 1, none⟩ = some (.int .i64 (bc : Int))) (by kernel_rfl) ?_
            have hS := (show (fun w' : World => w'.cell? ⟨b, off + k * 2 + 1, none⟩ = some (.int .i64 (rc : Int)) ∧ w'.cell? ⟨w1.heap.size, 1, none⟩ = some (.int .i64 (bc : Int))) wr.drew from ⟨x1, y1⟩)
            refine wpAnyR_takeQ (i := 0) (v := ?_) (some 22) rfl rfl (by kernel_rfl) (by kernel_rfl) (by kernel_rfl) (by kernel_rfl) (fun _ _ _ h => h) (Or.inl ⟨by rfl, ?_⟩) ?_
            rotate_left
            focus (intro wS hSw; (try dsimp only at hSw); go_simp; (try with_reducible rfl); (try (first | (rw [if_pos (by omega)]; (try go_simp); (try with_reducible rfl)) | (rw [if_neg (by omega)]; (try go_simp); (try with_reducible rfl)))))
            try simp only [Act.put, zA, zB, zC]
            refine wpAnyR_takeQ (i := 1) (v := ?_) (some 23) rfl rfl (by kernel_rfl) (by kernel_rfl) (by kernel_rfl) (by kernel_rfl) (fun _ _ _ h => h) (Or.inl ⟨by rfl, ?_⟩) ?_
            rotate_left
            focus (intro wS hSw; (try dsimp only at hSw); go_simp; (try with_reducible rfl); (try (first | (rw [if_pos (by omega)]; (try go_simp); (try with_reducible rfl)) | (rw [if_neg (by omega)]; (try go_simp); (try with_reducible rfl)))))
            try simp only [Act.put, zA, zB, zC]
            refine wpAnyR_takeQ (i := 2) (v := ?_) (some 24) rfl rfl (by kernel_rfl) (by kernel_rfl) (by kernel_rfl) (by kernel_rfl) (fun _ _ _ h => h) (Or.inl ⟨by rfl, ?_⟩) ?_
            rotate_left
            focus (intro wS hSw; (try dsimp only at hSw); go_simp; (try with_reducible rfl); (try (first | (rw [if_pos (by omega)]; (try go_simp); (try with_reducible rfl)) | (rw [if_neg (by omega)]; (try go_simp); (try with_reducible rfl)))))
            try simp only [Act.put, zA, zB, zC]
            refine wpAnyR_takeQ (i := 3) (v := ?_) (some 25) rfl rfl (by kernel_rfl) (by kernel_rfl) (by kernel_rfl) (by kernel_rfl) (fun _ _ _ h => h) (Or.inl ⟨by rfl, ?_⟩) ?_
            rotate_left
            focus (intro wS hSw; (try dsimp only at hSw); go_simp; (try with_reducible rfl); (try (first | (rw [if_pos (by omega)]; (try go_simp); (try with_reducible rfl)) | (rw [if_neg (by omega)]; (try go_simp); (try with_reducible rfl)))))
            try simp only [Act.put, zA, zB, zC]
            refine wpAnyR_take (i := 4) (v := ?_) [6, 7, 8, 9, 10, 11, 12, 13, 14, 15, 16, 17, 18, 19, 20, 21] (some 26) rfl rfl (by kernel_rfl) (by kernel_rfl) (by kernel_rfl) (by kernel_rfl) (by kernel_rfl) (by kernel_rfl) (by kernel_rfl) (fun _ _ _ h => h) (Or.inl ⟨by rfl, ?_⟩) hS ?_
            rotate_left
            focus (intro wS hSw; (try dsimp only at hSw); go_simp; (try with_reducible rfl); (try (first | (rw [if_pos (by omega)]; (try go_simp); (try with_reducible rfl)) | (rw [if_neg (by omega)]; (try go_simp); (try with_reducible rfl)))))
            try simp only [Act.put, zA, zB, zC]
            refine wpAnyR_takeQ (i := 5) (v := ?_) (some 27) rfl rfl (by kernel_rfl) (by kernel_rfl) (by kernel_rfl) (by kernel_rfl) (fun _ _ _ h => h) (Or.inl ⟨by rfl, ?_⟩) ?_
            rotate_left
            focus (intro wS hSw; (try dsimp only at hSw); go_simp; (try with_reducible rfl); (try (first | (rw [if_pos (by omega)]; (try go_simp); (try with_reducible rfl)) | (rw [if_neg (by omega)]; (try go_simp); (try with_reducible rfl)))))
            try simp only [Act.put, zA, zB, zC]
            refine wpAnyR_takeQ (i := 6) (v := ?_) (some 28) rfl rfl (by kernel_rfl) (by kernel_rfl) (by kernel_rfl) (by kernel_rfl) (fun _ _ _ h => h) (Or.inl ⟨by rfl, ?_⟩) ?_
            rotate_left
            focus (intro wS hSw; (try dsimp only at hSw); go_simp; (try with_reducible rfl); (try (first | (rw [if_pos (by omega)]; (try go_simp); (try with_reducible rfl)) | (rw [if_neg (by omega)]; (try go_simp); (try with_reducible rfl)))))
            try simp only [Act.put, zA, zB, zC]
            try rw [show decide (n ≤ (rc : Int)) = true from decide_eq_true (by omega)]
            refine wpAnyR_takeQ (i := 7) (v := ?_) (some 29) rfl rfl (by kernel_rfl) (by kernel_rfl) (by kernel_rfl) (by kernel_rfl) (fun _ _ _ h => h) (Or.inl ⟨by rfl, ?_⟩) ?_
            rotate_left
            focus (intro wS hSw; (try dsimp only at hSw); go_simp; (try with_reducible rfl); (try (first | (rw [if_pos (by omega)]; (try go_simp); (try with_reducible rfl)) | (rw [if_neg (by omega)]; (try go_simp); (try with_reducible rfl)))))
            try simp only [Act.put, zA, zB, zC]
            refine wpAnyR_takeQ (i := 8) (v := ?_) (some 30) rfl rfl (by kernel_rfl) (by kernel_rfl) (by kernel_rfl) (by kernel_rfl) (fun _ _ _ h => h) (Or.inl ⟨by rfl, ?_⟩) ?_
            rotate_left
            focus (intro wS hSw; (try dsimp only at hSw); go_simp; (try with_reducible rfl); (try (first | (rw [if_pos (by omega)]; (try go_simp); (try with_reducible rfl)) | (rw [if_neg (by omega)]; (try go_simp); (try with_reducible rfl)))))
            try simp only [Act.put, zA, zB, zC]
            refine wpAnyR_take (i := 9) (v := ?_) [10, 11, 12, 13, 14, 15, 16, 17, 18, 19, 20, 21] (some 31) rfl rfl (by kernel_rfl) (by kernel_rfl) (by kernel_rfl) (by kernel_rfl) (by kernel_rfl) (by kernel_rfl) (by kernel_rfl) (fun _ _ _ h => h) (Or.inl ⟨by rfl, ?_⟩) hS ?_
            rotate_left
            focus (intro wS hSw; (try dsimp only at hSw); go_simp; (try with_reducible rfl); (try (first | (rw [if_pos (by omega)]; (try go_simp); (try with_reducible rfl)) | (rw [if_neg (by omega)]; (try go_simp); (try with_reducible rfl)))))
            try simp only [Act.put, zA, zB, zC]
            refine wpAnyR_takeQ (i := 10) (v := ?_) (some 32) rfl rfl (by kernel_rfl) (by kernel_rfl) (by kernel_rfl) (by kernel_rfl) (fun _ _ _ h => h) (Or.inl ⟨by rfl, ?_⟩) ?_
            rotate_left
            focus (intro wS hSw; (try dsimp only at hSw); go_simp; (try with_reducible rfl); (try (first | (rw [if_pos (by omega)]; (try go_simp); (try with_reducible rfl)) | (rw [if_neg (by omega)]; (try go_simp); (try with_reducible rfl)))))
            try simp only [Act.put, zA, zB, zC]
            try rw [h2b]
            refine wpAnyR_takeQ (i := 11) (v := ?_) (some 33) rfl rfl (by kernel_rfl) (by kernel_rfl) (by kernel_rfl) (by kernel_rfl) (fun _ _ _ h => h) (Or.inl ⟨by rfl, ?_⟩) ?_
            rotate_left
            focus (intro wS hSw; (try dsimp only at hSw); go_simp; (try with_reducible rfl); (try (first | (rw [if_pos (by omega)]; (try go_simp); (try with_reducible rfl)) | (rw [if_neg (by omega)]; (try go_simp); (try with_reducible rfl)))))
            try simp only [Act.put, zA, zB, zC]
            refine wpAnyR_takeQ (i := 12) (v := ?_) (some 34) rfl rfl (by kernel_rfl) (by kernel_rfl) (by kernel_rfl) (by kernel_rfl) (fun _ _ _ h => h) (Or.inl ⟨by rfl, ?_⟩) ?_
            rotate_left
            focus (intro wS hSw; (try dsimp only at hSw); go_simp; (try with_reducible rfl); (try (first | (rw [if_pos (by omega)]; (try go_simp); (try with_reducible rfl)) | (rw [if_neg (by omega)]; (try go_simp); (try with_reducible rfl)))))
            try simp only [Act.put, zA, zB, zC]
            refine wpAnyR_takeQ (i := 13) (v := ?_) (some 35) rfl rfl (by kernel_rfl) (by kernel_rfl) (by kernel_rfl) (by kernel_rfl) (fun _ _ _ h => h) (Or.inl ⟨by rfl, ?_⟩) ?_
            rotate_left
            focus (intro wS hSw; (try dsimp only at hSw); go_simp; (try with_reducible rfl); (try (first | (rw [if_pos (by omega)]; (try go_simp); (try with_reducible rfl)) | (rw [if_neg (by omega)]; (try go_simp); (try with_reducible rfl)))))
            try simp only [Act.put, zA, zB, zC]
            refine wpAnyR_takeQ (i := 14) (v := ?_) (some 36) rfl rfl (by kernel_rfl) (by kernel_rfl) (by kernel_rfl) (by kernel_rfl) (fun _ _ _ h => h) (Or.inl ⟨by rfl, ?_⟩) ?_
            rotate_left
            focus (intro wS hSw; (try dsimp only at hSw); go_simp; (try with_reducible rfl); (try (first | (rw [if_pos (by omega)]; (try go_simp); (try with_reducible rfl)) | (rw [if_neg (by omega)]; (try go_simp); (try with_reducible rfl)))))
            try simp only [Act.put, zA, zB, zC]
            refine wpAnyR_takeQ (i := 15) (v := ?_) (some 37) rfl rfl (by kernel_rfl) (by kernel_rfl) (by kernel_rfl) (by kernel_rfl) (fun _ _ _ h => h) (Or.inl ⟨by rfl, ?_⟩) ?_
            rotate_left
            focus (intro wS hSw; (try dsimp only at hSw); go_simp; (try with_reducible rfl); (try (first | (rw [if_pos (by omega)]; (try go_simp); (try with_reducible rfl)) | (rw [if_neg (by omega)]; (try go_simp); (try with_reducible rfl)))))
            try simp only [Act.put, zA, zB, zC]
            refine wpAnyR_take (i := 16) (v := ?_) [19, 20, 21] (some 38) rfl rfl (by kernel_rfl) (by kernel_rfl) (by kernel_rfl) (by kernel_rfl) (by kernel_rfl) (by kernel_rfl) (by kernel_rfl) (fun _ _ _ h => h) (Or.inl ⟨by rfl, ?_⟩) hS ?_
            rotate_left
            focus (intro wS hSw; (try dsimp only at hSw); go_simp; (try with_reducible rfl); (try (first | (rw [if_pos (by omega)]; (try go_simp); (try with_reducible rfl)) | (rw [if_neg (by omega)]; (try go_simp); (try with_reducible rfl)))))
            try simp only [Act.put, zA, zB, zC]
            refine wpAnyR_takeQ (i := 17) (v := ?_) (some 39) rfl rfl (by kernel_rfl) (by kernel_rfl) (by kernel_rfl) (by kernel_rfl) (fun _ _ _ h => h) (Or.inl ⟨by rfl, ?_⟩) ?_
            rotate_left
            focus (intro wS hSw; (try dsimp only at hSw); go_simp; (try with_reducible rfl); (try (first | (rw [if_pos (by omega)]; (try go_simp); (try with_reducible rfl)) | (rw [if_neg (by omega)]; (try go_simp); (try with_reducible rfl)))))
            try simp only [Act.put, zA, zB, zC]
            refine wpAnyR_take (i := 18) (v := ?_) [19, 20, 21] (some 40) rfl rfl (by kernel_rfl) (by kernel_rfl) (by kernel_rfl) (by kernel_rfl) (by kernel_rfl) (by kernel_rfl) (by kernel_rfl) (fun _ _ _ h => h) (Or.inl ⟨by rfl, ?_⟩) hS ?_
            rotate_left
            focus (intro wS hSw; (try dsimp only at hSw); go_simp; (try with_reducible rfl); (try (first | (rw [if_pos (by omega)]; (try go_simp); (try with_reducible rfl)) | (rw [if_neg (by omega)]; (try go_simp); (try with_reducible rfl)))))
            try simp only [Act.put, zA, zB, zC]
            refine wpAnyR_takeQ (i := 19) (v := ?_) (some 41) rfl rfl (by kernel_rfl) (by kernel_rfl) (by kernel_rfl) (by kernel_rfl) (fun _ _ _ h => h) (Or.inl ⟨by rfl, ?_⟩) ?_
            rotate_left
            focus (intro wS hSw; (try dsimp only at hSw); go_simp; (try with_reducible rfl); (try (first | (rw [if_pos (by omega)]; (try go_simp); (try with_reducible rfl)) | (rw [if_neg (by omega)]; (try go_simp); (try with_reducible rfl)))))
            try simp only [Act.put, zA, zB, zC]
            try rw [show decide ((rc : Int) < (bc : Int)) = false from decide_eq_false (by omega)]
            refine wpAnyR_takeQ (i := 20) (v := ?_) (some 42) rfl rfl (by kernel_rfl) (by kernel_rfl) (by kernel_rfl) (by kernel_rfl) (fun _ _ _ h => h) (Or.inl ⟨by rfl, ?_⟩) ?_
            rotate_left
            focus (intro wS hSw; (try dsimp only at hSw); go_simp; (try with_reducible rfl); (try (first | (rw [if_pos (by omega)]; (try go_simp); (try with_reducible rfl)) | (rw [if_neg (by omega)]; (try go_simp); (try with_reducible rfl)))))
            try simp only [Act.put, zA, zB, zC]
            refine wpAnyR_takeQ (i := 21) (v := ?_) (some 43) rfl rfl (by kernel_rfl) (by kernel_rfl) (by kernel_rfl) (by kernel_rfl) (fun _ _ _ h => h) (Or.inl ⟨by rfl, ?_⟩) ?_
            rotate_left
            focus (intro wS hSw; (try dsimp only at hSw); go_simp; (try with_reducible rfl); (try (first | (rw [if_pos (by omega)]; (try go_simp); (try with_reducible rfl)) | (rw [if_neg (by omega)]; (try go_simp); (try with_reducible rfl)))))
            try simp only [Act.put, zA, zB, zC]
            refine wpAnyR_done (by kernel_rfl) ?_ _
            go_wp2_with fail
            go_roundg (N.length - (k + 1))
            case measure => rw [HGK.out]; omega
            case rel => exact ⟨k + 1, by omega, by omega, by go_num, fun h => absurd h (by omega), by rw [HN.out]; have := HR2.out; (apply Blk.conv; (· (repeat' first | (with_reducible assumption) | (with_reducible apply Blk.setRow) | ((with_reducible apply Blk.farRow); rotate_left; (focus (first | (simp; done) | (simp; omega) | omega))) | (with_reducible apply Blk.drew) | (with_reducible apply Blk.drewN) | (with_reducible apply Blk.set_) | (with_reducible exact Blk.new _ _ _ (by first | rfl | (simp; done) | (simp; omega))) | (with_reducible apply Blk.alloc) | ((with_reducible apply Blk.far); rotate_left; (focus (first | (simp; done) | (simp; omega) | omega))) | ((with_reducible apply Blk.grew); rotate_left; (with_reducible assumption)) | ((with_reducible apply Blk.turned); rotate_left; (with_reducible assumption); (focus (first | (simp; done) | (simp; omega) | omega))) | fail)); (· rfl)), by have := HT.out; (repeat' first | (with_reducible exact Turned.refl _ _) | (with_reducible assumption) | (with_reducible refine Turned.alloc ?_ _) | (with_reducible refine Turned.drew ?_) | (with_reducible refine Turned.drewN ?_ _) | (with_reducible refine Turned.setRow ?_ (by first | (simp; done) | (simp; omega) | omega) _) | (with_reducible refine Turned.setCell ?_ (by first | (simp; done) | (simp; omega) | omega) _) | ((with_reducible apply Turned.andGrew); rotate_left; (with_reducible assumption)) | ((with_reducible apply Turned.trans); rotate_left; (with_reducible assumption)) | fail)⟩
      · have HN := Lib.hid (show bestF n (N.take (k + 1)) = (bf, bc) from by rw [HST.out]; unfold bestStep; rw [if_neg (fun h => h1 h.1)])
        go_wp2_with fail
        refine wp_region_R [] (fun w' : World => w'.cell? ⟨b, off + k * 2 + 1, none⟩ = some (.int .i64 (rc : Int)) ∧ w'.cell? ⟨w1.heap.size, 1, none⟩ = some (.int .i64 (bc : Int))) (by kernel_rfl) ?_
        have hS := (show (fun w' : World => w'.cell? ⟨b, off + k * 2 + 1, none⟩ = some (.int .i64 (rc : Int)) ∧ w'.cell? ⟨w1.heap.size, 1, none⟩ = some (.int .i64 (bc : Int))) wr.drew from ⟨x1, y1⟩)
        refine wpAnyR_takeQ (i := 0) (v := ?_) (some 22) rfl rfl (by kernel_rfl) (by kernel_rfl) (by kernel_rfl) (by kernel_rfl) (fun _ _ _ h => h) (Or.inl ⟨by rfl, ?_⟩) ?_
        rotate_left
        focus (intro wS hSw; (try dsimp only at hSw); go_simp; (try with_reducible rfl); (try (first | (rw [if_pos (by omega)]; (try go_simp); (try with_reducible rfl)) | (rw [if_neg (by omega)]; (try go_simp); (try with_reducible rfl)))))
        try simp only [Act.put, zA, zB, zC]
        refine wpAnyR_takeQ (i := 1) (v := ?_) (some 23) rfl rfl (by kernel_rfl) (by kernel_rfl) (by kernel_rfl) (by kernel_rfl) (fun _ _ _ h => h) (Or.inl ⟨by rfl, ?_⟩) ?_
        rotate_left
        focus (intro wS hSw; (try dsimp only at hSw); go_simp; (try with_reducible rfl); (try (first | (rw [if_pos (by omega)]; (try go_simp); (try with_reducible rfl)) | (rw [if_neg (by omega)]; (try go_simp); (try with_reducible rfl)))))
        try simp only [Act.put, zA, zB, zC]
        refine wpAnyR_takeQ (i := 2) (v := ?_) (some 24) rfl rfl (by kernel_rfl) (by kernel_rfl) (by kernel_rfl) (by kernel_rfl) (fun _ _ _ h => h) (Or.inl ⟨by rfl, ?_⟩) ?_
        rotate_left
        focus (intro wS hSw; (try dsimp only at hSw); go_simp; (try with_reducible rfl); (try (first | (rw [if_pos (by omega)]; (try go_simp); (try with_reducible rfl)) | (rw [if_neg (by omega)]; (try go_simp); (try with_reducible rfl)))))
        try simp only [Act.put, zA, zB, zC]
        refine wpAnyR_takeQ (i := 3) (v := ?_) (some 25) rfl rfl (by kernel_rfl) (by kernel_rfl) (by kernel_rfl) (by kernel_rfl) (fun _ _ _ h => h) (Or.inl ⟨by rfl, ?_⟩) ?_
        rotate_left
        focus (intro wS hSw; (try dsimp only at hSw); go_simp; (try with_reducible rfl); (try (first | (rw [if_pos (by omega)]; (try go_simp); (try with_reducible rfl)) | (rw [if_neg (by omega)]; (try go_simp); (try with_reducible rfl)))))
        try simp only [Act.put, zA, zB, zC]
        refine wpAnyR_take (i := 4) (v := ?_) [6, 7, 8, 9, 10, 11, 12, 13, 14, 15, 16, 17, 18, 19, 20, 21] (some 26) rfl rfl (by kernel_rfl) (by kernel_rfl) (by kernel_rfl) (by kernel_rfl) (by kernel_rfl) (by kernel_rfl) (by kernel_rfl) (fun _ _ _ h => h) (Or.inl ⟨by rfl, ?_⟩) hS ?_
        rotate_left
        focus (intro wS hSw; (try dsimp only at hSw); go_simp; (try with_reducible rfl); (try (first | (rw [if_pos (by omega)]; (try go_simp); (try with_reducible rfl)) | (rw [if_neg (by omega)]; (try go_simp); (try with_reducible rfl)))))
        try simp only [Act.put, zA, zB, zC]
        refine wpAnyR_takeQ (i := 5) (v := ?_) (some 27) rfl rfl (by kernel_rfl) (by kernel_rfl) (by kernel_rfl) (by kernel_rfl) (fun _ _ _ h => h) (Or.inl ⟨by rfl, ?_⟩) ?_
        rotate_left
        focus (intro wS hSw; (try dsimp only at hSw); go_simp; (try with_reducible rfl); (try (first | (rw [if_pos (by omega)]; (try go_simp); (try with_reducible rfl)) | (rw [if_neg (by omega)]; (try go_simp); (try with_reducible rfl)))))
        try simp only [Act.put, zA, zB, zC]
        refine wpAnyR_takeQ (i := 6) (v := ?_) (some 28) rfl rfl (by kernel_rfl) (by kernel_rfl) (by kernel_rfl) (by kernel_rfl) (fun _ _ _ h => h) (Or.inl ⟨by rfl, ?_⟩) ?_
        rotate_left
        focus (intro wS hSw; (try dsimp only at hSw); go_simp; (try with_reducible rfl); (try (first | (rw [if_pos (by omega)]; (try go_simp); (try with_reducible rfl)) | (rw [if_neg (by omega)]; (try go_simp); (try with_reducible rfl)))))
        try simp only [Act.put, zA, zB, zC]
        try rw [show decide (n ≤ (rc : Int)) = false from decide_eq_false (by omega)]
        refine wpAnyR_takeQ (i := 7) (v := ?_) (some 29) rfl rfl (by kernel_rfl) (by kernel_rfl) (by kernel_rfl) (by kernel_rfl) (fun _ _ _ h => h) (Or.inl ⟨by rfl, ?_⟩) ?_
        rotate_left
        focus (intro wS hSw; (try dsimp only at hSw); go_simp; (try with_reducible rfl); (try (first | (rw [if_pos (by omega)]; (try go_simp); (try with_reducible rfl)) | (rw [if_neg (by omega)]; (try go_simp); (try with_reducible rfl)))))
        try simp only [Act.put, zA, zB, zC]
        refine wpAnyR_takeQ (i := 8) (v := undef) (some 30) rfl rfl (by kernel_rfl) (by kernel_rfl) (by kernel_rfl) (by kernel_rfl) (fun _ _ _ h => h) (Or.inr ⟨by rfl, rfl⟩) ?_
        try simp only [Act.put, zA, zB, zC]
        refine wpAnyR_takeQ (i := 9) (v := undef) (some 31) rfl rfl (by kernel_rfl) (by kernel_rfl) (by kernel_rfl) (by kernel_rfl) (fun _ _ _ h => h) (Or.inr ⟨by rfl, rfl⟩) ?_
        try simp only [Act.put, zA, zB, zC]
        refine wpAnyR_takeQ (i := 10) (v := undef) (some 32) rfl rfl (by kernel_rfl) (by kernel_rfl) (by kernel_rfl) (by kernel_rfl) (fun _ _ _ h => h) (Or.inr ⟨by rfl, rfl⟩) ?_
        try simp only [Act.put, zA, zB, zC]
        refine wpAnyR_takeQ (i := 11) (v := undef) (some 33) rfl rfl (by kernel_rfl) (by kernel_rfl) (by kernel_rfl) (by kernel_rfl) (fun _ _ _ h => h) (Or.inr ⟨by rfl, rfl⟩) ?_
        try simp only [Act.put, zA, zB, zC]
        refine wpAnyR_takeQ (i := 12) (v := undef) (some 34) rfl rfl (by kernel_rfl) (by kernel_rfl) (by kernel_rfl) (by kernel_rfl) (fun _ _ _ h => h) (Or.inr ⟨by rfl, rfl⟩) ?_
        try simp only [Act.put, zA, zB, zC]
        refine wpAnyR_takeQ (i := 13) (v := undef) (some 35) rfl rfl (by kernel_rfl) (by kernel_rfl) (by kernel_rfl) (by kernel_rfl) (fun _ _ _ h => h) (Or.inr ⟨by rfl, rfl⟩) ?_
        try simp only [Act.put, zA, zB, zC]
        refine wpAnyR_takeQ (i := 14) (v := undef) (some 36) rfl rfl (by kernel_rfl) (by kernel_rfl) (by kernel_rfl) (by kernel_rfl) (fun _ _ _ h => h) (Or.inr ⟨by rfl, rfl⟩) ?_
        try simp only [Act.put, zA, zB, zC]
        refine wpAnyR_takeQ (i := 15) (v := undef) (some 37) rfl rfl (by kernel_rfl) (by kernel_rfl) (by kernel_rfl) (by kernel_rfl) (fun _ _ _ h => h) (Or.inr ⟨by rfl, rfl⟩) ?_
        try simp only [Act.put, zA, zB, zC]
        refine wpAnyR_takeQ (i := 16) (v := undef) (some 38) rfl rfl (by kernel_rfl) (by kernel_rfl) (by kernel_rfl) (by kernel_rfl) (fun _ _ _ h => h) (Or.inr ⟨by rfl, rfl⟩) ?_
        try simp only [Act.put, zA, zB, zC]
        refine wpAnyR_takeQ (i := 17) (v := undef) (some 39) rfl rfl (by kernel_rfl) (by kernel_rfl) (by kernel_rfl) (by kernel_rfl) (fun _ _ _ h => h) (Or.inr ⟨by rfl, rfl⟩) ?_
        try simp only [Act.put, zA, zB, zC]
        refine wpAnyR_takeQ (i := 18) (v := undef) (some 40) rfl rfl (by kernel_rfl) (by kernel_rfl) (by kernel_rfl) (by kernel_rfl) (fun _ _ _ h => h) (Or.inr ⟨by rfl, rfl⟩) ?_
        try simp only [Act.put, zA, zB, zC]
        refine wpAnyR_takeQ (i := 19) (v := undef) (some 41) rfl rfl (by kernel_rfl) (by kernel_rfl) (by kernel_rfl) (by kernel_rfl) (fun _ _ _ h => h) (Or.inr ⟨by rfl, rfl⟩) ?_
        try simp only [Act.put, zA, zB, zC]
        refine wpAnyR_takeQ (i := 20) (v := undef) (some 42) rfl rfl (by kernel_rfl) (by kernel_rfl) (by kernel_rfl) (by kernel_rfl) (fun _ _ _ h => h) (Or.inr ⟨by rfl, rfl⟩) ?_
        try simp only [Act.put, zA, zB, zC]
        refine wpAnyR_takeQ (i := 21) (v := ?_) (some 43) rfl rfl (by kernel_rfl) (by kernel_rfl) (by kernel_rfl) (by kernel_rfl) (fun _ _ _ h => h) (Or.inl ⟨by rfl, ?_⟩) ?_
        rotate_left
        focus (intro wS hSw; (try dsimp only at hSw); go_simp; (try with_reducible rfl); (try (first | (rw [if_pos (by omega)]; (try go_simp); (try with_reducible rfl)) | (rw [if_neg (by omega)]; (try go_simp); (try with_reducible rfl)))))
        try simp only [Act.put, zA, zB, zC]
        refine wpAnyR_done (by kernel_rfl) ?_ _
        go_wp2_with fail
        go_roundg (N.length - (k + 1))
        case measure => rw [HGK.out]; omega
        case rel => exact ⟨k + 1, by omega, by omega, by go_num, fun h => absurd h (by omega), by rw [HN.out]; have := HR2.out; (apply Blk.conv; (· (repeat' first | (with_reducible assumption) | (with_reducible apply Blk.setRow) | ((with_reducible apply Blk.farRow); rotate_left; (focus (first | (simp; done) | (simp; omega) | omega))) | (with_reducible apply Blk.drew) | (with_reducible apply Blk.drewN) | (with_reducible apply Blk.set_) | (with_reducible exact Blk.new _ _ _ (by first | rfl | (simp; done) | (simp; omega))) | (with_reducible apply Blk.alloc) | ((with_reducible apply Blk.far); rotate_left; (focus (first | (simp; done) | (simp; omega) | omega))) | ((with_reducible apply Blk.grew); rotate_left; (with_reducible assumption)) | ((with_reducible apply Blk.turned); rotate_left; (with_reducible assumption); (focus (first | (simp; done) | (simp; omega) | omega))) | fail)); (· rfl)), by have := HT.out; (repeat' first | (with_reducible exact Turned.refl _ _) | (with_reducible assumption) | (with_reducible refine Turned.alloc ?_ _) | (with_reducible refine Turned.drew ?_) | (with_reducible refine Turned.drewN ?_ _) | (with_reducible refine Turned.setRow ?_ (by first | (simp; done) | (simp; omega) | omega) _) | (with_reducible refine Turned.setCell ?_ (by first | (simp; done) | (simp; omega) | omega) _) | ((with_reducible apply Turned.andGrew); rotate_left; (with_reducible assumption)) | ((with_reducible apply Turned.trans); rotate_left; (with_reducible assumption)) | fail)⟩
    · obtain rfl : k = N.length := by omega
      rw [List.take_length] at hb6 hfb
      have hGe : Grew w wr := hG.turn ht (fun i hi => by omega)
      have HGE := Lib.hid hGe
      have y0 := hb6.cell 0
      have y1 := hb6.cell 1
      have hlb := hb6.lt
      have z0 := hb4.cell 0
      have z1 := hb4.cell 1
      have zf0 := hb4.frozen 0
      have zf1 := hb4.frozen 1
      have hlb4 := hb4.lt
      clear ht hGe
      generalize bestF n N = bb at *
      obtain ⟨bf, bc⟩ := bb
      simp only at y0 y1 hfb
      by_cases h2 : bc = 0
      · have h2b : (((bc : Nat) : Int) == 0) = true := beq_iff_eq.2 (by omega)
        have HE := Lib.hid (show bestS (memS l) n = ((0, 0), false) from by rw [HS.out]; exact if_pos (.inr h2))
        clear h2
        go_wp2_with fail
        refine bodyPost_ret (by first | (simp [*, results, Tryz.results162, go_sem]; rfl) | simp [*, results, Tryz.results162, go_sem]) rfl ?_
        rw [HE.out]
        exact ⟨rfl, by have := HGE.out; (repeat' first | (with_reducible exact Grew.refl _) | (with_reducible assumption) | (with_reducible refine Grew.alloc ?_ _) | (with_reducible refine Grew.drew ?_) | (with_reducible refine Grew.drewN ?_ _) | (with_reducible refine Grew.setRow ?_ (by first | (simp; done) | (simp; omega) | omega) _) | (with_reducible refine Grew.setCell ?_ (by first | (simp; done) | (simp; omega) | omega) _) | ((with_reducible apply Grew.trans); rotate_left; (with_reducible assumption)) | ((with_reducible apply Grew.turn); rotate_left; (with_reducible assumption); (focus (intro i hi; first | omega | (simp at hi; omega)))) | fail)⟩
      · have h2b : (((bc : Nat) : Int) == 0) = false := beq_eq_false_iff_ne.2 (by omega)
        have HE := Lib.hid (show bestS (memS l) n = (((bf : Int), n), true) from by rw [HS.out]; exact if_neg (fun h => h.elim (fun h => by omega) h2))
        clear h2
        go_wp2_with fail
        refine bodyPost_ret (by first | (simp [*, results, Tryz.results162, go_sem]; rfl) | simp [*, results, Tryz.results162, go_sem]) rfl ?_
        rw [HE.out]
        exact ⟨rfl, by have := HGE.out; (repeat' first | (with_reducible exact Grew.refl _) | (with_reducible assumption) | (with_reducible refine Grew.alloc ?_ _) | (with_reducible refine Grew.drew ?_) | (with_reducible refine Grew.drewN ?_ _) | (with_reducible refine Grew.setRow ?_ (by first | (simp; done) | (simp; omega) | omega) _) | (with_reducible refine Grew.setCell ?_ (by first | (simp; done) | (simp; omega) | omega) _) | ((with_reducible apply Grew.trans); rotate_left; (with_reducible assumption)) | ((with_reducible apply Grew.turn); rotate_left; (with_reducible assumption); (focus (intro i hi; first | omega | (simp at hi; omega)))) | fail)⟩
end
end Go.Proofs.YtnlaogneceanoaaGreat
namespace Go.Proofs.YtnlaogneceanoaaGreat
set_option linter.unusedVariables false
set_option linter.unusedSimpArgs false
set_option linter.unusedSectionVars false
open Go.Shelf Go.RowKit Go.Lib
set_option maxRecDepth 100000
def sortIv_ren : Go.Shelf.Ren := ⟨fun | 6 => 141 | 15 => 111 | 14 => 170 | 28 => 156 | 29 => 157 | 20 => 184 | 21 => 185 | 22 => 186 | 23 => 187 | 24 => 188 | 25 => 189 | 26 => 190 | 27 => 191 | 46 => 193 | 47 => 173 | 48 => 174 | 49 => 194 | 50 => 195 | 57 => 196 | n => n, fun | 22 => 29 | 24 => 65 | 25 => 143 | 3 => 3 | 39 => 119 | 0 => 0 | 53 => 160 | 55 => 139 | 4 => 4 | 46 => 154 | 45 => 153 | 50 => 62 | 5 => 5 | 9 => 9 | 66 => 182 | 70 => 185 | 76 => 199 | 77 => 200 | n => n, fun | n => n⟩
theorem sortIv : Go.Proofs.SlLaysF0.n6 Tryz.prog sortIv_ren := {
  mixed := by kernel_rfl
  f6 := ⟨Tryz.f141.name, by decide, Tryz.func141.trans (congrArg some (by kernel_rfl))⟩
  f14 := ⟨Tryz.f170.name, by decide, Tryz.func170.trans (congrArg some (by kernel_rfl))⟩
  f15 := Tryz.func111.trans (congrArg some (by kernel_rfl))
  f20 := ⟨Tryz.f184.name, by decide, Tryz.func184.trans (congrArg some (by kernel_rfl))⟩
  f21 := ⟨Tryz.f185.name, by decide, Tryz.func185.trans (congrArg some (by kernel_rfl))⟩
  f22 := ⟨Tryz.f186.name, by decide, Tryz.func186.trans (congrArg some (by kernel_rfl))⟩
  f23 := ⟨Tryz.f187.name, by decide, Tryz.func187.trans (congrArg some (by kernel_rfl))⟩
  f24 := ⟨Tryz.f188.name, by decide, Tryz.func188.trans (congrArg some (by kernel_rfl))⟩
  f25 := ⟨Tryz.f189.name, by decide, Tryz.func189.trans (congrArg some (by kernel_rfl))⟩
  f26 := ⟨Tryz.f190.name, by decide, Tryz.func190.trans (congrArg some (by kernel_rfl))⟩
  f27 := ⟨Tryz.f191.name, by decide, Tryz.func191.trans (congrArg some (by kernel_rfl))⟩
  f28 := Tryz.func156.trans (congrArg some (by kernel_rfl))
  f29 := Tryz.func157.trans (congrArg some (by kernel_rfl))
  f46 := ⟨Tryz.f193.name, by decide, Tryz.func193.trans (congrArg some (by kernel_rfl))⟩
  f47 := Tryz.func173.trans (congrArg some (by kernel_rfl))
  f48 := Tryz.func174.trans (congrArg some (by kernel_rfl))
  f49 := ⟨Tryz.f194.name, by decide, Tryz.func194.trans (congrArg some (by kernel_rfl))⟩
  f50 := ⟨Tryz.f195.name, by decide, Tryz.func195.trans (congrArg some (by kernel_rfl))⟩
  f57 := ⟨Tryz.f196.name, by decide, Tryz.func196.trans (congrArg some (by kernel_rfl))⟩
  t0 := Tryz.underlying0
  a0 := Tryz.isAgg0
  z0 := Tryz.sizeOf0
  v0 := Tryz.zeroValue0
  t3 := Tryz.underlying3
  a3 := Tryz.isAgg3
  z3 := Tryz.sizeOf3
  v3 := Tryz.zeroValue3
  t4 := Tryz.underlying4
  a4 := Tryz.isAgg4
  z4 := Tryz.sizeOf4
  v4 := Tryz.zeroValue4
  t5 := Tryz.underlying5
  a5 := Tryz.isAgg5
  z5 := Tryz.sizeOf5
  v5 := Tryz.zeroValue5
  t9 := Tryz.underlying9
  a9 := Tryz.isAgg9
  z9 := Tryz.sizeOf9
  v9 := Tryz.zeroValue9
  t22 := Tryz.underlying29
  a22 := Tryz.isAgg29
  z22 := Tryz.sizeOf29
  v22 := Tryz.zeroValue29
  t25 := Tryz.underlying143
  a25 := Tryz.isAgg143
  z25 := Tryz.sizeOf143
  v25 := Tryz.zeroValue143
  t39 := Tryz.underlying119
  a39 := Tryz.isAgg119
  z39 := Tryz.sizeOf119
  v39 := Tryz.zeroValue119
  t45 := Tryz.underlying153
  a45 := Tryz.isAgg153
  z45 := Tryz.sizeOf153
  v45 := Tryz.zeroValue153
  t46 := Tryz.underlying154
  a46 := Tryz.isAgg154
  z46 := Tryz.sizeOf154
  v46 := Tryz.zeroValue154
  t50 := Tryz.underlying62
  a50 := Tryz.isAgg62
  z50 := Tryz.sizeOf62
  v50 := Tryz.zeroValue62
  t53 := Tryz.underlying160
  a53 := Tryz.isAgg160
  z53 := Tryz.sizeOf160
  v53 := Tryz.zeroValue160
  t55 := Tryz.underlying139
  a55 := Tryz.isAgg139
  z55 := Tryz.sizeOf139
  v55 := Tryz.zeroValue139
  t66 := Tryz.underlying182
  a66 := Tryz.isAgg182
  z66 := Tryz.sizeOf182
  v66 := Tryz.zeroValue182
  t70 := Tryz.underlying185
  a70 := Tryz.isAgg185
  z70 := Tryz.sizeOf185
  v70 := Tryz.zeroValue185
  t76 := Tryz.underlying199
  a76 := Tryz.isAgg199
  z76 := Tryz.sizeOf199
  v76 := Tryz.zeroValue199
  t77 := Tryz.underlying200
  a77 := Tryz.isAgg200
  z77 := Tryz.sizeOf200
  v77 := Tryz.zeroValue200
  }
end Go.Proofs.YtnlaogneceanoaaGreat
namespace Go.Proofs.YtnlaogneceanoaaGreat
set_option linter.unusedVariables false
set_option linter.unusedSimpArgs false
set_option linter.unusedSectionVars false
open Go.RowKit Go.Shelf Go.Lib
attribute [local go_sem ↓] Go.wp_at_zero Go.wp_at_succ
def FR : Type := Fin 256 × Fin 256
instance : Inhabited FR := ⟨(⟨0, by decide⟩, ⟨0, by decide⟩)⟩
def toF (r : Nat × Nat) : FR := (⟨r.1 % 256, Nat.mod_lt _ (by decide)⟩, ⟨r.2 % 256, Nat.mod_lt _ (by decide)⟩)
def ofF (x : FR) : Nat × Nat := (x.1.val, x.2.val)
theorem ofF_toF (r : Nat × Nat) (h : r.1 + r.2 ≤ 128) : ofF (toF r) = r := by
  obtain ⟨a, b⟩ := r
  simp only at h
  show (a % 256, b % 256) = (a, b)
  rw [Nat.mod_eq_of_lt (by omega), Nat.mod_eq_of_lt (by omega)]
def encRF (x : FR) : List Value := rowN (ofF x)
def cmpF (x y : FR) : Int := if (ofF x).2 = (ofF y).2 then ((ofF x).1 : Int) - ((ofF y).1 : Int) else ((ofF y).2 : Int) - ((ofF x).2 : Int)
theorem ltF (x y : FR) : Go.Proofs.ltOf cmpF x y = true ↔ ltR (ofF x) (ofF y) := by
  unfold Go.Proofs.ltOf cmpF ltR
  rw [decide_eq_true_eq]
  split <;> omega
theorem sworder : Go.Sort.SWO (Go.Proofs.ltOf cmpF) where
  irrefl x := by
    cases h : Go.Proofs.ltOf cmpF x x with
    | false => rfl
    | true => exact (ltR_asymm ((ltF x x).1 h) ((ltF x x).1 h)).elim
  trans x y z h1 h2 := by
    rw [ltF] at h1 h2 ⊢
    unfold ltR at *
    omega
  ntrans x y z h1 h2 := by
    rw [← Bool.not_eq_true] at h1 h2 ⊢
    rw [ltF] at h1 h2 ⊢
    unfold ltR at *
    omega
set_option maxRecDepth 100000 in
set_option maxHeartbeats 1000000 in
theorem bigger_any (x y : FR) (W : World) : Calls Tryz.prog 140 #[.agg (encRF x).toArray, .agg (encRF y).toArray] W fun e w' => e = .returned (.int .i64 (cmpF x y)) ∧ ∃ q os', w' = Go.Sort.grow (W.drewN q) os' := by
  have hx1 := x.1.isLt
  have hx2 := x.2.isLt
  have hy1 := y.1.isLt
  have hy2 := y.2.isLt
  show Calls Tryz.prog 140 #[.agg #[.int .i64 (x.1.val : Int), .int .i64 (x.2.val : Int)], .agg #[.int .i64 (y.1.val : Int), .int .i64 (y.2.val : Int)]] W _
  have HC := Lib.hid (show cmpF x y = if x.2.val = y.2.val then ((x.1.val : Int)) - (y.1.val : Int) else (y.2.val : Int) - (x.2.val : Int) from rfl)
  generalize x.1.val = a at *
  generalize x.2.val = b at *
  generalize y.1.val = c at *
  generalize y.2.val = d at *
  by_cases h : b = d
  · have hb : ((b : Int) != (d : Int)) = false := by rw [bne_eq_false_iff_eq]; omega
    have HE := Lib.hid (show cmpF x y = (a : Int) - (c : Int) from by rw [HC.out, if_pos h])
    clear h
    go_enter Tryz.func140, Tryz.ntmps140
    go_wp2_with fail
    go_ret
    exact ⟨ret_int (by rw [HE.out]), 0, _, by rw [Go.Sort.alloc_eq_grow, Go.Sort.alloc_eq_grow, Go.Sort.grow_grow]; rfl⟩
  · have hb : ((b : Int) != (d : Int)) = true := by rw [bne_iff_ne]; omega
    have HE := Lib.hid (show cmpF x y = (d : Int) - (b : Int) from by rw [HC.out, if_neg h])
    clear h
    go_enter Tryz.func140, Tryz.ntmps140
    go_wp2_with fail
    go_ret
    exact ⟨ret_int (by rw [HE.out]), 0, _, by rw [Go.Sort.alloc_eq_grow, Go.Sort.alloc_eq_grow, Go.Sort.grow_grow]; rfl⟩
theorem sorted_turned (w : World) (g m : Nat) (d : Array FR) (os : Array Obj) : Turned (fun i => i = g) w (Go.Proofs.sortWorldK encRF 2 w g 0 m d os) := by
  refine ⟨rfl, rfl, rfl, ?_, fun k hk hs => ?_⟩
  · exact Go.Proofs.size_sortWorldK_c encRF 2 w g 0 m d os
  · unfold Go.Proofs.sortWorldK Go.Sort.grow Go.Sort.putRowK Go.Sort.putRow Go.Sort.mapBlock Go.Sort.ahead
    show (w.heap.modify g _ ++ os)[k]? = w.heap[k]?
    rw [Array.getElem?_append_left (by rw [Array.size_modify]; exact hk), Array.getElem?_modify, if_neg (fun e => hs e.symm)]
theorem whole_extract (d : Array FR) : (d.extract 0 d.size).toList = d.toList := by rw [Array.extract_size]
theorem at_idx (d : Array FR) (i : Nat) (h : i < d.size) : d[i]! = d.toList[i]'(by rw [Array.length_toList]; exact h) := by
  rw [getElem!_pos d i h, Array.getElem_toList]
theorem holds_own {w : World} {base g cap : Nat} {N : List (Nat × Nat)} (h : OwnL w base 65 2 (.slice (some ⟨g, 0, none⟩) N.length cap) (N.map rowN)) (hb : ∀ r ∈ N, r.1 + r.2 ≤ 128) : Go.Sort.HoldsK encRF 2 w g 0 (N.map toF).toArray := by
  intro t ht
  have ht' : t < N.length * 2 := by simpa using ht
  have hj : t / 2 < N.length := by omega
  rw [Go.Sort.get_flatK _ _ _ _ (by simpa using ht'), Nat.zero_add]
  have hel : ((N.map toF).toArray)[t / 2]! = toF N[t / 2] := by
    rw [getElem!_pos _ _ (by simpa using hj)]
    simp
  have hrow : (N.map rowN)[t / 2]? = some (rowN N[t / 2]) := by rw [List.getElem?_map, List.getElem?_eq_getElem hj]; rfl
  have he : encRF (toF N[t / 2]) = rowN N[t / 2] := by unfold encRF; rw [ofF_toF _ (hb _ (List.getElem_mem hj))]
  rw [hel, he]
  refine ⟨?_, h.frozen t⟩
  have hm : t = t / 2 * 2 + t % 2 := by omega
  have hlt : t % 2 < 2 := Nat.mod_lt _ (by decide)
  have hu : (rowN N[t / 2])[t % 2]? = some ((rowN N[t / 2])[t % 2]!) := by
    have hlen : (rowN N[t / 2]).length = 2 := rfl
    rw [List.getElem?_eq_getElem (by omega), getElem!_pos _ _ (by omega)]
  have := h.cell (j := t / 2) (i := t % 2) hrow hu
  rwa [← hm] at this
theorem runs_held {w : World} {g : Nat} {d : Array FR} {M : List (Nat × Nat)} (h : Go.Sort.HoldsK encRF 2 w g 0 d) (hd : d.toList.map ofF = M) (hg : g < w.heap.size) : RunsAt w w.heap.size (some ⟨g, 0, none⟩) (ints M) := by
  subst hd
  refine ⟨?_, fun _ => ⟨g, 0, rfl, hg, fun j cs hj i v hi => ?_⟩⟩
  · intro r hr
    obtain ⟨x, hx, rfl⟩ := List.mem_map.1 hr
    obtain ⟨y, hy, rfl⟩ := List.mem_map.1 hx
    have h1 := y.1.isLt
    have h2 := y.2.isLt
    show okRun ((y.1.val : Int), (y.2.val : Int))
    unfold okRun
    simp only
    omega
  · rw [ints_rows, List.map_map] at hj
    rw [List.getElem?_map] at hj
    cases hx : d.toList[j]? with
    | none => rw [hx] at hj; cases hj
    | some x =>
      rw [hx] at hj
      have hjl : j < d.toList.length := (List.getElem?_eq_some_iff.1 hx).1
      have hjs : j < d.size := by rw [← Array.length_toList]; exact hjl
      injection hj with hj
      have hcs : cs = encRF x := hj.symm
      have hil : i < cs.length := (List.getElem?_eq_some_iff.1 hi).1
      have hi2 : i < 2 := by rw [hcs] at hil; exact hil
      have hc := (h.cell (i := j) (c := i) hjs hi2).1
      have hxe : d[j]! = x := by
        rw [at_idx d j hjs]
        exact (List.getElem?_eq_some_iff.1 hx).2
      rw [hxe, ← hcs, getElem!_pos cs i hil] at hc
      rw [hc, (List.getElem?_eq_some_iff.1 hi).2]
set_option maxRecDepth 100000 in
set_option maxHeartbeats 1000000 in
theorem sort_any (g cap : Nat) (S : Nat → Bool) (w : World) (base : Nat) (hown : OwnL w base 65 2 (.slice (some ⟨g, 0, none⟩) (normS S).length cap) ((normS S).map rowN)) :
    Calls Tryz.prog 141 #[.slice (some ⟨g, 0, none⟩) (normS S).length cap, .func (.func 140) #[] #[]] w fun e w' => e = .returned (.tuple #[]) ∧ Turned (fun i => i = g) w w' ∧ RunsAt w' w'.heap.size (some ⟨g, 0, none⟩) (ints (sortS (normS S))) := by
  have hg : g < w.heap.size := by
    rcases hown.form with ⟨h, _⟩ | ⟨g', _, h, _, h2, _⟩
    · cases h
    · injection h with h
      injection h with h
      injection h with h
      omega
  have hbd := normS_bd S
  have hlen := normS_len S
  have hH := holds_own hown hbd
  have hds : ((normS S).map toF).toArray.size = (normS S).length := by simp
  have hdl : (((normS S).map toF).toArray.toList).map ofF = normS S := by
    show ((normS S).map toF).map ofF = normS S
    rw [List.map_map]
    conv => rhs; rw [← List.map_id (normS S)]
    exact List.map_congr_left (fun r hr => ofF_toF r (hbd r hr))
  obtain ⟨d, hd⟩ : ∃ d, ((normS S).map toF).toArray = d := ⟨_, rfl⟩
  rw [hd] at hH hds hdl
  have eg : ∀ args w, (callFunc 140 args).run Tryz.prog w = .ok (.enter 140 args) w := enters_of Tryz.func140 (by kernel_rfl) rfl
  have hcon := Go.Proofs.AnyQ.slices_SortFunc sortIv 2 Tryz.isAgg65 Tryz.sizeOf65 encRF (fun _ => rfl) (fun x v hv => by simp [encRF, rowN] at hv; rcases hv with rfl | rfl <;> rfl) cmpF sworder 140 #[] g 0 cap d w eg (fun m os dk hs x y => bigger_any x y _) hH hg (by rw [hds]; omega)
  change Calls Tryz.prog 141 _ _ _ at hcon
  rw [hds] at hcon
  refine hcon.mono ?_
  rintro e w' ⟨rfl, d', n, os, hp, hs, rfl⟩
  refine ⟨rfl, sorted_turned w g n d' os, ?_⟩
  have hsz : d'.size = d.size := hp.1
  refine runs_held (d := d') (Go.Proofs.holdsK_sortWorldK_c encRF 2 w g 0 d d' n os hH hg hsz) ?_ (Nat.lt_of_lt_of_le hg (Go.Proofs.size_sortWorldK_c encRF 2 w g 0 n d' os))
  refine sort_is S _ ?_ ?_
  · have h3 := hp.2.2
    rw [← hds, whole_extract d, ← hsz, whole_extract d'] at h3
    rw [← hdl]
    exact h3.map _
  · intro i j hi hj hij hlt
    rw [List.length_map, Array.length_toList] at hi hj
    have h4 := hs i j (Nat.zero_le _) hij (by omega)
    rw [at_idx d' j hj, at_idx d' i hi] at h4
    rw [List.getElem_map, List.getElem_map] at hlt
    rw [(ltF _ _).2 hlt] at h4
    cases h4
theorem sort_own (S : Nat → Bool) (w : World) (base : Nat) (v : Value) (hown : OwnL w base 65 2 v ((normS S).map rowN)) :
    ∃ A c, v = .slice A (sortS (normS S)).length c ∧ Calls Tryz.prog 141 #[.slice A (sortS (normS S)).length c, .func (.func 140) #[] #[]] w fun e w' => e = .returned (.tuple #[]) ∧ Turned (fun i => base ≤ i) w w' ∧ RunsAt w' w'.heap.size A (ints (sortS (normS S))) := by
  have hlen : (sortS (normS S)).length = (normS S).length := (sortS_perm _ (normS_cnt S) (normS_asc S)).length_eq.symm
  rcases hown.form with ⟨rfl, h0⟩ | ⟨g, cap, rfl, hg, hg2, _⟩
  · have hn0 : (normS S).length = 0 := by have := congrArg List.length h0; simpa using this
    have hm0 : (sortS (normS S)).length = 0 := by omega
    refine ⟨none, 0, by rw [hm0], ?_⟩
    rw [hm0]
    have hcon := Go.Proofs.AnyF.slices_SortFunc_none sortIv none 0 (.func (.func 140) #[] #[]) w
    change Calls Tryz.prog 141 _ _ _ at hcon
    refine hcon.mono ?_
    rintro e w' ⟨rfl, rfl⟩
    refine ⟨rfl, Turned.refl _ _, ?_⟩
    rw [List.eq_nil_of_length_eq_zero hm0]
    exact ⟨fun r hr => (List.not_mem_nil hr).elim, fun h => absurd h (by decide)⟩
  · rw [List.length_map] at hown ⊢
    refine ⟨some ⟨g, 0, none⟩, cap, by rw [hlen], ?_⟩
    rw [hlen]
    refine (sort_any g cap S w base hown).mono ?_
    rintro e w' ⟨rfl, ht, hr⟩
    exact ⟨rfl, ht.mono (fun k _ hk => by subst hk; exact hg), hr⟩
end Go.Proofs.YtnlaogneceanoaaGreat
namespace Go.Proofs.YtnlaogneceanoaaGreat
set_option linter.unusedVariables false
set_option linter.unusedSimpArgs false
set_option linter.unusedSectionVars false
open Go.RowKit
/-- The runs that are allocated, and the error. -/
def allocS (S : Nat → Bool) (n most : Int) : List (Nat × Nat) × Int :=
  if n < 1 ∨ most < 1 then ([], 1)
  else if (bestF n (normS S)).2 ≠ 0 then ([((bestF n (normS S)).1, n.toNat)], 0)
  else if n.toNat - cntL (sortS (normS S)) ≠ 0 ∨ most < ((takeR (sortS (normS S)) n.toNat).length : Int) then ([], 14)
  else (takeR (sortS (normS S)) n.toNat, 0)
def AllocR (w : World) (d : List (Nat × Nat) × Int) (e : Ending) (w' : World) : Prop := ∃ v, e = .returned (.tuple #[v, .int .i64 d.2]) ∧ OwnL w' w.heap.size 65 2 v (d.1.map rowN) ∧ Grew w w'
theorem OwnL.one {w : World} {base n : Nat} {r : Nat × Nat} (hb : base ≤ w.heap.size) (hn : n = w.heap.size) : OwnL (w.alloc (.cells #[.int .i64 (r.1 : Int), .int .i64 (r.2 : Int)] 65)) base 65 2 (.slice (some ⟨n, 0, none⟩) 1 1) ([r].map rowN) := by
  subst hn
  exact ⟨by simp [rowN], World.ownsRow_lit w _ 1 hb (by decide) (by simp)⟩
section
variable (A : Option Addr) (c : Nat) (l : List (Int × Int)) (w : World) (B : Nat) (hB : B ≤ w.heap.size) (hl : l.length ≤ 1000000) (hr : RunsAt w B A l) (n : Int) (n0 : -9223372036854775808 ≤ n) (n1 : n ≤ 9223372036854775807) (most : Int)
include hB hl hr n0 n1
set_option maxRecDepth 100000 in
set_option maxHeartbeats 4000000 in
theorem alloc_any : Calls Tryz.prog 88 #[.slice A l.length c, .int .i64 n, .int .i64 most] w (AllocR w (allocS (memS l) n most)) := by
  by_cases h1 : n < 1
  · have HE := Lib.hid (show allocS (memS l) n most = ([], 1) from by unfold allocS; rw [if_pos (.inl h1)])
    go_enter Tryz.func88, Tryz.ntmps88
    go_wp2_with fail
    go_returns
    rw [HE.out]
    exact ⟨_, rfl, OwnL.nil _ _ _ _, by (repeat' first | (with_reducible exact Grew.refl _) | (with_reducible assumption) | (with_reducible refine Grew.alloc ?_ _) | (with_reducible refine Grew.drew ?_) | (with_reducible refine Grew.drewN ?_ _) | (with_reducible refine Grew.setRow ?_ (by first | (simp; done) | (simp; omega) | omega) _) | (with_reducible refine Grew.setCell ?_ (by first | (simp; done) | (simp; omega) | omega) _) | ((with_reducible apply Grew.trans); rotate_left; (with_reducible assumption)) | ((with_reducible apply Grew.turn); rotate_left; (with_reducible assumption); (focus (intro i hi; first | omega | (simp at hi; omega)))) | fail)⟩
  by_cases h2 : most < 1
  · have HE := Lib.hid (show allocS (memS l) n most = ([], 1) from by unfold allocS; rw [if_pos (.inr h2)])
    go_enter Tryz.func88, Tryz.ntmps88
    go_wp2_with fail
    go_returns
    rw [HE.out]
    exact ⟨_, rfl, OwnL.nil _ _ _ _, by (repeat' first | (with_reducible exact Grew.refl _) | (with_reducible assumption) | (with_reducible refine Grew.alloc ?_ _) | (with_reducible refine Grew.drew ?_) | (with_reducible refine Grew.drewN ?_ _) | (with_reducible refine Grew.setRow ?_ (by first | (simp; done) | (simp; omega) | omega) _) | (with_reducible refine Grew.setCell ?_ (by first | (simp; done) | (simp; omega) | omega) _) | ((with_reducible apply Grew.trans); rotate_left; (with_reducible assumption)) | ((with_reducible apply Grew.turn); rotate_left; (with_reducible assumption); (focus (intro i hi; first | omega | (simp at hi; omega)))) | fail)⟩
  obtain ⟨nn, rfl⟩ : ∃ nn : Nat, n = (nn : Int) := ⟨n.toNat, by omega⟩
  have HS := Lib.hid (show allocS (memS l) (nn : Int) most = if (bestF (nn : Int) (normS (memS l))).2 ≠ 0 then ([((bestF (nn : Int) (normS (memS l))).1, nn)], 0) else if nn - cntL (sortS (normS (memS l))) ≠ 0 ∨ most < ((takeR (sortS (normS (memS l))) nn).length : Int) then ([], 14) else (takeR (sortS (normS (memS l))) nn, 0) from by unfold allocS; rw [if_neg (fun h => h.elim h1 h2)]; rfl)
  have hB0 := best_any A c l w B hB hl hr (nn : Int) n0 n1
  have hbb : bestS (memS l) (nn : Int) = if (bestF (nn : Int) (normS (memS l))).2 = 0 then ((0, 0), false) else ((((bestF (nn : Int) (normS (memS l))).1 : Int), (nn : Int)), true) := by
    unfold bestS
    by_cases hz : (bestF (nn : Int) (normS (memS l))).2 = 0
    · rw [if_pos (.inr hz), if_pos hz]
    · rw [if_neg (fun h => h.elim h1 hz), if_neg hz]
  rw [hbb] at hB0
  have hbd := normS_bd (memS l)
  have hfb := bestF_bd (nn : Int) (normS (memS l)) 128 hbd
  have hfm := bestF_mem (nn : Int) (normS (memS l))
  by_cases hz : (bestF (nn : Int) (normS (memS l))).2 = 0
  rotate_left
  · rw [if_neg hz] at hB0
    have hnl : nn ≤ 128 := by
      rcases hfm with h | ⟨_, h⟩
      · rw [h] at hz; exact absurd rfl hz
      · omega
    have HE := Lib.hid (show allocS (memS l) (nn : Int) most = ([((bestF (nn : Int) (normS (memS l))).1, nn)], 0) from by rw [HS.out, if_pos hz])
    generalize bestF (nn : Int) (normS (memS l)) = bb at *
    obtain ⟨bf, bc⟩ := bb
    simp only at hB0 HE hfb
    have HB0 := Lib.hid hB0
    clear hbb hB0 HS hz hfm
    go_enter Tryz.func88, Tryz.ntmps88
    go_wp2_with fail
    refine HB0.out.mono ?_
    rintro e w1 ⟨rfl, g1⟩
    have hws := g1.size
    go_wp2_with fail
    go_returns
    rw [HE.out]
    refine ⟨_, rfl, OwnL.one (r := (bf, nn)) ?_ ?_, by (repeat' first | (with_reducible exact Grew.refl _) | (with_reducible assumption) | (with_reducible refine Grew.alloc ?_ _) | (with_reducible refine Grew.drew ?_) | (with_reducible refine Grew.drewN ?_ _) | (with_reducible refine Grew.setRow ?_ (by first | (simp; done) | (simp; omega) | omega) _) | (with_reducible refine Grew.setCell ?_ (by first | (simp; done) | (simp; omega) | omega) _) | ((with_reducible apply Grew.trans); rotate_left; (with_reducible assumption)) | ((with_reducible apply Grew.turn); rotate_left; (with_reducible assumption); (focus (intro i hi; first | omega | (simp at hi; omega)))) | fail)⟩
    · simp; omega
    · simp
  rw [if_pos hz] at hB0
  have HS2 := Lib.hid (show allocS (memS l) (nn : Int) most = if nn - cntL (sortS (normS (memS l))) ≠ 0 ∨ most < ((takeR (sortS (normS (memS l))) nn).length : Int) then ([], 14) else (takeR (sortS (normS (memS l))) nn, 0) from by rw [HS.out, if_neg (fun h => h hz)])
  have HB0 := Lib.hid hB0
  have HC := Lib.hid (fun w' (g : Grew w w') => normal_any A c l w' B (Nat.le_trans hB g.size) hl (hr.keep hB g))
  have HSRT := Lib.hid (fun w base v h => sort_own (memS l) w base v h)
  have hml : (sortS (normS (memS l))).length ≤ 128 := by rw [← (sortS_perm _ (normS_cnt (memS l)) (normS_asc (memS l))).length_eq]; exact normS_len _
  have hmb : ∀ r ∈ sortS (normS (memS l)), r.1 + r.2 ≤ 128 := fun r hr => hbd r ((mem_sortS _ (normS_cnt (memS l)) r).1 hr)
  generalize sortS (normS (memS l)) = M at *
  have HMB := Lib.hid hmb
  clear hbb hB0 HS hz hfm hfb hr hbd hmb
  go_enter Tryz.func88, Tryz.ntmps88
  go_wp2_with fail
  refine HB0.out.mono ?_
  rintro e w1 ⟨rfl, g1⟩
  have hws := g1.size
  go_wp2_with fail
  refine (HC.out _ (by (repeat' first | (with_reducible exact Grew.refl _) | (with_reducible assumption) | (with_reducible refine Grew.alloc ?_ _) | (with_reducible refine Grew.drew ?_) | (with_reducible refine Grew.drewN ?_ _) | (with_reducible refine Grew.setRow ?_ (by first | (simp; done) | (simp; omega) | omega) _) | (with_reducible refine Grew.setCell ?_ (by first | (simp; done) | (simp; omega) | omega) _) | ((with_reducible apply Grew.trans); rotate_left; (with_reducible assumption)) | ((with_reducible apply Grew.turn); rotate_left; (with_reducible assumption); (focus (intro i hi; first | omega | (simp at hi; omega)))) | fail))).mono ?_
  rintro e w2 ⟨v, rfl, hown, g2⟩
  have hG : Grew w w2 := by (repeat' first | (with_reducible exact Grew.refl _) | (with_reducible assumption) | (with_reducible refine Grew.alloc ?_ _) | (with_reducible refine Grew.drew ?_) | (with_reducible refine Grew.drewN ?_ _) | (with_reducible refine Grew.setRow ?_ (by first | (simp; done) | (simp; omega) | omega) _) | (with_reducible refine Grew.setCell ?_ (by first | (simp; done) | (simp; omega) | omega) _) | ((with_reducible apply Grew.trans); rotate_left; (with_reducible assumption)) | ((with_reducible apply Grew.turn); rotate_left; (with_reducible assumption); (focus (intro i hi; first | omega | (simp at hi; omega)))) | fail)
  obtain ⟨A', c', hv, hsrt⟩ := HSRT.out _ _ _ hown
  subst hv
  have hwb : w.heap.size ≤ w1.heap.size + 1 := by omega
  clear hown HC HB0 g1 g2 HSRT
  go_wp2_with fail
  refine hsrt.mono ?_
  rintro e w3 ⟨rfl, ht, hr3⟩
  replace hG := hG.turn ht (fun i hi => by simp at hi; omega)
  have HR := Lib.hid hr3
  have hgs := hG.size
  clear hsrt ht hr3
  go_wp2_with fail
  go_loopg [1, 12, 37] M.length (fun gk nv ov i wr => ∃ k : Nat, k ≤ M.length ∧ gk = M.length - k ∧ i = .int .i64 k ∧ nv = .int .i64 ((nn - cntL (M.take k) : Nat) : Int) ∧ OwnL wr w3.heap.size 65 2 ov ((takeR (M.take k) nn).map rowN) ∧ Grew w3 wr)
  case atStart => exact ⟨0, by omega, by omega, rfl, by simp [cntL], OwnL.nil _ _ _ _, Grew.refl _⟩
  case round =>
    obtain ⟨k, hk, hgk, rfl, rfl, hown, hg⟩ := hrel
    have HGK := Lib.hid hgk
    clear hgk
    have htl := takeR_len (M.take k) nn
    have htk : (M.take k).length ≤ 128 := Nat.le_trans (List.length_take_le _ _) (by omega)
    have hws3 := hg.size
    obtain ⟨Av, cv, hv, hcv1, hcv2, -⟩ := hown.listAt
    rw [List.length_map] at hv hcv1
    subst hv
    by_cases hlt : k < M.length
    · obtain ⟨b, off, rfl, hb, x0, x1⟩ := runs_nat (HR.out.keep (Nat.le_refl _) hg) hlt
      have hbs : b < wr.heap.size := by omega
      have hrb := HMB.out _ (List.getElem_mem hlt)
      have HST := Lib.hid (takeR_snoc M k nn hlt)
      have HCN := Lib.hid (cntL_snoc M k hlt)
      have HTT := Lib.hid (fun h => takeR_stop (M.drop k) (M.take k) nn h)
      generalize M[k] = r at *
      obtain ⟨rf, rc⟩ := r
      simp only at x0 x1 hrb
      obtain ⟨m, hm⟩ : ∃ m, nn - cntL (M.take k) = m := ⟨_, rfl⟩
      rw [hm] at HST
      rw [hm]
      by_cases hm0 : m = 0
      · have HTT2 := HTT.out (by omega)
        rw [List.take_append_drop] at HTT2
        have hz0 : nn - cntL M = 0 := by
          have h9 := cntL_append (M.take k) (M.drop k)
          rw [List.take_append_drop] at h9
          omega
        rw [← HTT2] at hown htl
        have hownx := hown.alloc (.cells #[.int .i64 (rf : Int), .int .i64 (rc : Int)] 65)
        have hgx := hg.alloc (.cells #[.int .i64 (rf : Int), .int .i64 (rc : Int)] 65)
        have hb0 : ((m : Int) == 0) = true := beq_iff_eq.2 (by omega)
        rw [← HTT2]
        subst hm0
        clear HTT2 hm
        by_cases hl2 : most < ((takeR M nn).length : Int)
        · have HE := Lib.hid (show allocS (memS l) (nn : Int) most = ([], 14) from by rw [HS2.out]; exact if_pos (.inr hl2))
          go_wp2_with fail
          go_returns
          rw [HE.out]
          exact ⟨_, rfl, OwnL.nil _ _ _ _, hG.trans hgx⟩
        · have HE := Lib.hid (show allocS (memS l) (nn : Int) most = (takeR M nn, 0) from by rw [HS2.out]; exact if_neg (fun h => h.elim (fun h => h hz0) hl2))
          go_wp2_with fail
          go_returns
          rw [HE.out]
          exact ⟨_, rfl, hownx.mono hgs, hG.trans hgx⟩
      · have hb0 : ((m : Int) == 0) = false := beq_eq_false_iff_ne.2 (by omega)
        have HSN := Lib.hid (HST.out.trans (by rw [if_neg hm0]))
        obtain ⟨q, hq⟩ : ∃ q, min rc m = q := ⟨_, rfl⟩
        have hqi : min (rc : Int) (m : Int) = (q : Int) := by omega
        have hqm : q ≤ m := by omega
        have hqr : q ≤ rc := by omega
        have hmn : m ≤ nn := by omega
        have hmp : 0 < m := by omega
        rw [hq] at HSN
        have hown2 := hown.alloc (.cells #[.int .i64 (rf : Int), .int .i64 (q : Int)] 65)
        have hg2 := hg.alloc (.cells #[.int .i64 (rf : Int), .int .i64 (q : Int)] 65)
        have hnext : nn - cntL (M.take (k + 1)) = m - q := by rw [HCN.out]; show nn - (cntL (M.take k) + rc) = _; omega
        have HNX := Lib.hid hnext
        clear hnext hm0 hm HTT HCN hq
        go_wp2_with (at_builtin; (try rw [hqi]); refine wpList_push rfl _ _ 29 rfl w3.heap.size 65 2 16 _ Tryz.underlying29 info_run rfl (by decide) (wr.alloc (.cells #[.int .i64 (rf : Int), .int .i64 (q : Int)] 65)) _ ((takeR (M.take k) nn).map rowN) (rowN (rf, q)) (by rfl) rfl rfl hown2 (by first | rfl | (simp; done)) rfl rfl (by rw [List.length_map]; omega) (by rw [List.length_map]; omega) hg2.size ?_; intro v' w5 hown3 hgr hbk hsz)
        go_roundg (M.length - (k + 1))
        case measure => rw [HGK.out]; omega
        case rel => exact ⟨k + 1, by omega, by omega, by go_num, by rw [HNX.out]; go_num, by rw [HSN.out, List.map_append]; exact hown3, hgr _ hg2 (Nat.le_refl _)⟩
    · obtain rfl : k = M.length := by omega
      rw [List.take_length] at hown htl ⊢
      have hownx := hown
      have hgx := hg
      by_cases hz0 : nn - cntL M = 0
      · rw [hz0]
        by_cases hl2 : most < ((takeR M nn).length : Int)
        · have HE := Lib.hid (show allocS (memS l) (nn : Int) most = ([], 14) from by rw [HS2.out]; exact if_pos (.inr hl2))
          go_wp2_with fail
          go_returns
          rw [HE.out]
          exact ⟨_, rfl, OwnL.nil _ _ _ _, hG.trans hgx⟩
        · have HE := Lib.hid (show allocS (memS l) (nn : Int) most = (takeR M nn, 0) from by rw [HS2.out]; exact if_neg (fun h => h.elim (fun h => h hz0) hl2))
          go_wp2_with fail
          go_returns
          rw [HE.out]
          exact ⟨_, rfl, hownx.mono hgs, hG.trans hgx⟩
      · have HE := Lib.hid (show allocS (memS l) (nn : Int) most = ([], 14) from by rw [HS2.out]; exact if_pos (.inl hz0))
        generalize nn - cntL M = m at *
        have hm1 : 0 < m := by omega
        go_wp2_with fail
        go_returns
        rw [HE.out]
        exact ⟨_, rfl, OwnL.nil _ _ _ _, hG.trans hgx⟩
end
end Go.Proofs.YtnlaogneceanoaaGreat
namespace Go.Proofs.YtnlaogneceanoaaGreat
set_option linter.unusedVariables false
set_option linter.unusedSimpArgs false
set_option linter.unusedSectionVars false
open Go.RowKit
def sortTo (l : List (Nat × Nat)) (j : Nat) : List (Nat × Nat) := (List.range j).flatMap fun i => l.filter fun r => r.2 == 128 - i
theorem sortTo_succ (l : List (Nat × Nat)) (j : Nat) : sortTo l (j + 1) = sortTo l j ++ l.filter fun r => r.2 == 128 - j := by
  unfold sortTo; rw [List.range_succ, List.flatMap_append]; simp
theorem sortTo_len (l : List (Nat × Nat)) (j : Nat) : (sortTo l j).length ≤ l.length * j := by
  induction j with
  | zero => exact Nat.zero_le _
  | succ j ih =>
    rw [sortTo_succ, List.length_append, Nat.mul_succ]
    have := List.length_filter_le (fun r : Nat × Nat => r.2 == 128 - j) l
    omega
set_option maxRecDepth 100000 in
set_option maxHeartbeats 4000000 in
theorem rsorted_any (A : Option Addr) (c : Nat) (l : List (Int × Int)) (w : World) (B : Nat) (hB : B ≤ w.heap.size) (hl : l.length ≤ 1000000) (hr : RunsAt w B A l) :
    Calls Tryz.prog 163 #[.slice A l.length c] w fun e w' => ∃ v, e = .returned v ∧ OwnL w' w.heap.size 65 2 v ((sortS (normS (memS l))).map rowN) ∧ Grew w w' := by
  have HC := Lib.hid (refnormal_any A c l w B hB hl hr)
  have hbd := normS_bd (memS l)
  have hNl := normS_len (memS l)
  have HSS := Lib.hid (show sortS (normS (memS l)) = sortTo (normS (memS l)) 128 from rfl)
  generalize normS (memS l) = N at *
  have HBD := Lib.hid hbd
  clear hr hbd
  go_enter Tryz.func163, Tryz.ntmps163
  go_wp2_with fail
  refine HC.out.mono ?_
  rintro e w1 ⟨v, rfl, hown, hG⟩
  obtain ⟨A', c', hv, hr', _, _, hA'⟩ := own_runs2 hown (fun r hr => Nat.le_trans (HBD.out r hr) (by omega))
  subst hv
  have HR := Lib.hid hr'
  have hgs := hG.size
  clear hown hr' HC hA'
  go_wp2_with fail
  go_loopg [4, 5] 128 (fun gk ov nv wr => ∃ j : Nat, j ≤ 128 ∧ gk = 128 - j ∧ nv = .int .i64 ((128 - j : Nat) : Int) ∧ OwnL wr w1.heap.size 65 2 ov ((sortTo N j).map rowN) ∧ Grew w1 wr)
  case atStart => exact ⟨0, by omega, by omega, rfl, OwnL.empty _ _ _ _ (Nat.le_refl _) rfl, by (repeat' first | (with_reducible exact Grew.refl _) | (with_reducible assumption) | (with_reducible refine Grew.alloc ?_ _) | (with_reducible refine Grew.drew ?_) | (with_reducible refine Grew.drewN ?_ _) | (with_reducible refine Grew.setRow ?_ (by first | (simp; done) | (simp; omega) | omega) _) | (with_reducible refine Grew.setCell ?_ (by first | (simp; done) | (simp; omega) | omega) _) | ((with_reducible apply Grew.trans); rotate_left; (with_reducible assumption)) | ((with_reducible apply Grew.turn); rotate_left; (with_reducible assumption); (focus (intro i hi; first | omega | (simp at hi; omega)))) | fail)⟩
  case round =>
    obtain ⟨j, hj, hgk, rfl, hown, hg⟩ := hrel
    have HGK := Lib.hid hgk
    clear hgk
    have hsl := sortTo_len N j
    have hsl2 : N.length * j ≤ 128 * 128 := Nat.mul_le_mul hNl hj
    by_cases hlt : j < 128
    · obtain ⟨m, hm⟩ : ∃ m, 128 - j = m := ⟨_, rfl⟩
      have hm1 : 1 ≤ m := by omega
      have hm2 : m ≤ 128 := by omega
      have hdm : decide (1 ≤ (m : Int)) = true := decide_eq_true (by omega)
      have hdm2 : decide ((m : Int) ≥ 1) = true := decide_eq_true (by omega)
      rw [hm]
      have HM := Lib.hid hm
      have HSU := Lib.hid (show sortTo N (j + 1) = sortTo N j ++ N.filter fun r => r.2 == m from by rw [sortTo_succ, hm])
      generalize sortTo N j = out at *
      clear hm
      go_wp2_with fail
      go_loopg [4, 6] N.length (fun gk2 ov i wr2 => ∃ k : Nat, k ≤ N.length ∧ gk2 = N.length - k ∧ i = .int .i64 (k : Int) ∧ OwnL wr2 w1.heap.size 65 2 ov ((out ++ (N.take k).filter fun r => r.2 == m).map rowN) ∧ Grew w1 wr2)
      case atStart => exact ⟨0, by omega, by omega, rfl, by simpa using hown, hg⟩
      case round =>
        obtain ⟨k, hk, hgk2, rfl, hown2, hg2⟩ := hrel
        have HGK2 := Lib.hid hgk2
        clear hgk2
        have hfl := List.length_filter_le (fun r : Nat × Nat => r.2 == m) (N.take k)
        have htk : (N.take k).length ≤ 128 := Nat.le_trans (List.length_take_le _ _) (by omega)
        have hws := hg2.size
        by_cases hlt2 : k < N.length
        · obtain ⟨b, off, rfl, hb, x0, x1⟩ := runs_nat (HR.out.keep (Nat.le_refl _) hg2) hlt2
          have hbs : b < wr.heap.size := by omega
          have hrb := HBD.out _ (List.getElem_mem hlt2)
          have HFS := Lib.hid (show (N.take (k + 1)).filter (fun r => r.2 == m) = (N.take k).filter (fun r => r.2 == m) ++ (if N[k].2 == m then [N[k]] else []) from by
            rw [List.take_succ_eq_append_getElem hlt2, List.filter_append]
            congr 1
            simp only [List.filter_cons, List.filter_nil])
          generalize N[k] = r at *
          obtain ⟨rf, rc⟩ := r
          simp only at x0 x1 hrb
          generalize (N.take k).filter (fun r => r.2 == m) = flt at *
          obtain ⟨Av, cv, hv, hcv1, hcv2, -⟩ := hown2.listAt
          rw [List.length_map, List.length_append] at hv hcv1
          subst hv
          by_cases he : rc = m
          · have heb : ((rc : Int) == (m : Int)) = true := beq_iff_eq.2 (by omega)
            have HF2 := Lib.hid (HFS.out.trans (by rw [if_pos (beq_iff_eq.2 he)]))
            clear he HFS
            go_wp2_with (at_builtin; refine wpList_push rfl _ _ 29 rfl w1.heap.size 65 2 16 _ Tryz.underlying29 info_run rfl (by decide) wr _ ((out ++ flt).map rowN) (rowN (rf, rc)) (by rfl) rfl rfl hown2 (by first | rfl | (simp; done)) rfl rfl (by rw [List.length_map, List.length_append]; omega) (by rw [List.length_map, List.length_append]; omega) hg2.size ?_; intro v' w5 hown3 hgr hbk hsz)
            go_roundg (N.length - (k + 1))
            case measure => rw [HGK2.out]; omega
            case rel => exact ⟨k + 1, by omega, by omega, by go_num, by rw [HF2.out, ← List.append_assoc, List.map_append]; exact hown3, hgr _ hg2 (Nat.le_refl _)⟩
          · have heb : ((rc : Int) == (m : Int)) = false := beq_eq_false_iff_ne.2 (by omega)
            have HF2 := Lib.hid (HFS.out.trans (by rw [if_neg (by rw [beq_iff_eq]; exact he), List.append_nil]))
            clear he HFS
            go_wp2_with fail
            go_roundg (N.length - (k + 1))
            case measure => rw [HGK2.out]; omega
            case rel => exact ⟨k + 1, by omega, by omega, by go_num, by rw [HF2.out]; exact hown2, hg2⟩
        · obtain rfl : k = N.length := by omega
          rw [List.take_length] at hown2
          rw [← HSU.out] at hown2
          go_wp2_with fail
          go_roundg (128 - (j + 1))
          case measure => rw [HGK.out]; omega
          case rel => exact ⟨j + 1, by omega, by omega, by have := HM.out; go_num, hown2, hg2⟩
    · obtain rfl : j = 128 := by omega
      go_wp2_with fail
      go_ret
      refine ⟨_, rfl, ?_, hG.trans hg⟩
      rw [HSS.out]
      exact hown.mono hgs
end Go.Proofs.YtnlaogneceanoaaGreat
