/- Chapter 7: Valid. -/
import Derived.Test.YtkiciojipiakoaaLabD
namespace Go.Proofs.Ytkiciojipiakoaa
set_option linter.unusedVariables false
set_option linter.unusedSimpArgs false
set_option linter.unusedSectionVars false
open Go.RowKit
set_option maxRecDepth 100000 in
set_option maxHeartbeats 4000000 in
theorem valid_lab (A : Option Addr) (c : Nat) (l : Lab) (t : Int) (w : World) (h : LabAt w A c l) (hs : l.ext.length ≤ 100000) :
    Calls Try.prog 12 #[.agg #[.int .i64 l.id, .int .i64 l.unit, .string l.name, .string l.note, .slice A l.ext.length c], .int .i64 t] w fun e w' => e = .returned (.bool (validL l t)) ∧ Grew w w' := by
  have HL := Lib.hid h
  have HF := Lib.hid (valid_false l t)
  have HT := Lib.hid (valid_true l t)
  have hns := h.name
  have hts := h.note
  clear h
  go_enter Try.func12, Try.ntmps12
  go_wp2_with fail
  refine (table_any _ _).mono ?_
  rintro e w1 ⟨rfl, rfl⟩
  go_wp2_with fail
  have HB1 := Lib.hid ((((Blk.new w 24 #[.int .i64 l.id, .int .i64 l.unit, .string l.name, .string l.note, .slice A l.ext.length c] rfl).alloc (.cells #[.int .i64 t] 3)).alloc (.cells #[.int .i64 (ttS t)] 3)).alloc (.cells #[.func (.func 30) #[] #[.pointer (some ⟨w.heap.size + 1, 0, none⟩)], .func (.func 32) #[] #[.pointer (some ⟨w.heap.size, 0, none⟩)], .func (.func 33) #[] #[.pointer (some ⟨w.heap.size, 0, none⟩)], .func (.func 34) #[] #[.pointer (some ⟨w.heap.size, 0, none⟩)], .func (.func 35) #[] #[.pointer (some ⟨w.heap.size, 0, none⟩)], .func (.func 39) #[] #[.pointer (some ⟨w.heap.size, 0, none⟩), .pointer (some ⟨w.heap.size + 1 + 1, 0, none⟩), .pointer (some ⟨w.heap.size + 1, 0, none⟩)]] 25))
  have HB2 := Lib.hid (((Blk.new (w.alloc (.cells #[.int .i64 l.id, .int .i64 l.unit, .string l.name, .string l.note, .slice A l.ext.length c] 24)) 3 #[.int .i64 t] (n := w.heap.size + 1) (by simp)).alloc (.cells #[.int .i64 (ttS t)] 3)).alloc (.cells #[.func (.func 30) #[] #[.pointer (some ⟨w.heap.size + 1, 0, none⟩)], .func (.func 32) #[] #[.pointer (some ⟨w.heap.size, 0, none⟩)], .func (.func 33) #[] #[.pointer (some ⟨w.heap.size, 0, none⟩)], .func (.func 34) #[] #[.pointer (some ⟨w.heap.size, 0, none⟩)], .func (.func 35) #[] #[.pointer (some ⟨w.heap.size, 0, none⟩)], .func (.func 39) #[] #[.pointer (some ⟨w.heap.size, 0, none⟩), .pointer (some ⟨w.heap.size + 1 + 1, 0, none⟩), .pointer (some ⟨w.heap.size + 1, 0, none⟩)]] 25))
  have HB3 := Lib.hid ((Blk.new ((w.alloc (.cells #[.int .i64 l.id, .int .i64 l.unit, .string l.name, .string l.note, .slice A l.ext.length c] 24)).alloc (.cells #[.int .i64 t] 3)) 3 #[.int .i64 (ttS t)] (n := w.heap.size + 1 + 1) (by simp)).alloc (.cells #[.func (.func 30) #[] #[.pointer (some ⟨w.heap.size + 1, 0, none⟩)], .func (.func 32) #[] #[.pointer (some ⟨w.heap.size, 0, none⟩)], .func (.func 33) #[] #[.pointer (some ⟨w.heap.size, 0, none⟩)], .func (.func 34) #[] #[.pointer (some ⟨w.heap.size, 0, none⟩)], .func (.func 35) #[] #[.pointer (some ⟨w.heap.size, 0, none⟩)], .func (.func 39) #[] #[.pointer (some ⟨w.heap.size, 0, none⟩), .pointer (some ⟨w.heap.size + 1 + 1, 0, none⟩), .pointer (some ⟨w.heap.size + 1, 0, none⟩)]] 25))
  have HB4 := Lib.hid (Blk.new (((w.alloc (.cells #[.int .i64 l.id, .int .i64 l.unit, .string l.name, .string l.note, .slice A l.ext.length c] 24)).alloc (.cells #[.int .i64 t] 3)).alloc (.cells #[.int .i64 (ttS t)] 3)) 25 #[.func (.func 30) #[] #[.pointer (some ⟨w.heap.size + 1, 0, none⟩)], .func (.func 32) #[] #[.pointer (some ⟨w.heap.size, 0, none⟩)], .func (.func 33) #[] #[.pointer (some ⟨w.heap.size, 0, none⟩)], .func (.func 34) #[] #[.pointer (some ⟨w.heap.size, 0, none⟩)], .func (.func 35) #[] #[.pointer (some ⟨w.heap.size, 0, none⟩)], .func (.func 39) #[] #[.pointer (some ⟨w.heap.size, 0, none⟩), .pointer (some ⟨w.heap.size + 1 + 1, 0, none⟩), .pointer (some ⟨w.heap.size + 1, 0, none⟩)]] (n := w.heap.size + 1 + 1 + 1) (by simp))
  have HG0 := Lib.hid ((((Grew.refl w).alloc (.cells #[.int .i64 l.id, .int .i64 l.unit, .string l.name, .string l.note, .slice A l.ext.length c] 24)).alloc (.cells #[.int .i64 t] 3)).alloc (.cells #[.int .i64 (ttS t)] 3) |>.alloc (.cells #[.func (.func 30) #[] #[.pointer (some ⟨w.heap.size + 1, 0, none⟩)], .func (.func 32) #[] #[.pointer (some ⟨w.heap.size, 0, none⟩)], .func (.func 33) #[] #[.pointer (some ⟨w.heap.size, 0, none⟩)], .func (.func 34) #[] #[.pointer (some ⟨w.heap.size, 0, none⟩)], .func (.func 35) #[] #[.pointer (some ⟨w.heap.size, 0, none⟩)], .func (.func 39) #[] #[.pointer (some ⟨w.heap.size, 0, none⟩), .pointer (some ⟨w.heap.size + 1 + 1, 0, none⟩), .pointer (some ⟨w.heap.size + 1, 0, none⟩)]] 25))
  obtain ⟨w0, hw0⟩ : ∃ w0, w0 = ((((w.alloc (.cells #[.int .i64 l.id, .int .i64 l.unit, .string l.name, .string l.note, .slice A l.ext.length c] 24)).alloc (.cells #[.int .i64 t] 3)).alloc (.cells #[.int .i64 (ttS t)] 3)).alloc (.cells #[.func (.func 30) #[] #[.pointer (some ⟨w.heap.size + 1, 0, none⟩)], .func (.func 32) #[] #[.pointer (some ⟨w.heap.size, 0, none⟩)], .func (.func 33) #[] #[.pointer (some ⟨w.heap.size, 0, none⟩)], .func (.func 34) #[] #[.pointer (some ⟨w.heap.size, 0, none⟩)], .func (.func 35) #[] #[.pointer (some ⟨w.heap.size, 0, none⟩)], .func (.func 39) #[] #[.pointer (some ⟨w.heap.size, 0, none⟩), .pointer (some ⟨w.heap.size + 1 + 1, 0, none⟩), .pointer (some ⟨w.heap.size + 1, 0, none⟩)]] 25)) := ⟨_, rfl⟩
  rw [← hw0] at HB1 HB2 HB3 HB4 HG0 ⊢
  clear hw0
  go_loopg [20] 6 (fun gk i wr => ∃ k : Nat, k ≤ 6 ∧ gk = 6 - k ∧ i = .int .i64 k ∧ (∀ j, j < k → condS l t j = true) ∧ Grew w0 wr)
  case atStart => exact ⟨0, by omega, by omega, rfl, fun j h => by omega, Grew.refl _⟩
  case round =>
    obtain ⟨k, hk, hgk, rfl, hall, hg⟩ := hrel
    have HGK := Lib.hid hgk
    have HA := Lib.hid hall
    have HG := Lib.hid hg
    have HL5 := Lib.hid (HL.out.hold (HG0.out.trans hg))
    have b4 := HB4.out.grew hg
    have hb4 := b4.lt
    have HX1 := Lib.hid (HB1.out.grew hg)
    have HX2 := Lib.hid (HB2.out.grew hg)
    have HX3 := Lib.hid (HB3.out.grew hg)
    have HNX := Lib.hid (show condS l t k = true → ∀ j, j < k + 1 → condS l t j = true from fun h j hj => by
      by_cases hjk : j = k
      · rw [hjk]; exact h
      · exact hall j (by omega))
    clear hgk hall hg
    by_cases hlt : k < 6
    · rcases (show k = 0 ∨ k = 1 ∨ k = 2 ∨ k = 3 ∨ k = 4 ∨ k = 5 by omega) with rfl | rfl | rfl | rfl | rfl | rfl
      · have x0 := b4.cell 0
        have HC := Lib.hid (cond0_any (w.heap.size + 1) wr t HX2.out)
        clear b4
        go_wp2_with fail
        refine HC.out.mono ?_
        rintro e w5 ⟨rfl, g5⟩
        cases hx : okT t with
        | false =>
          have HFF := Lib.hid (HF.out 0 hx)
          clear hx
          go_wp2_with fail
          go_ret
          exact ⟨ret_bool (by rw [HFF.out]), (HG0.out.trans HG.out).trans g5⟩
        | true =>
          have HNN := Lib.hid (HNX.out hx)
          clear hx
          go_wp2_with fail
          go_roundg (6 - (0 + 1))
          case measure => rw [HGK.out]; omega
          case rel => exact ⟨0 + 1, by omega, by omega, by go_num, HNN.out, HG.out.trans g5⟩
      · have x0 := b4.cell 1
        have HC := Lib.hid (cond1_any A c l w.heap.size wr HX1.out)
        clear b4
        go_wp2_with fail
        refine HC.out.mono ?_
        rintro e w5 ⟨rfl, g5⟩
        cases hx : idB l with
        | false =>
          have HFF := Lib.hid (HF.out 1 hx)
          clear hx
          go_wp2_with fail
          go_ret
          exact ⟨ret_bool (by rw [HFF.out]), (HG0.out.trans HG.out).trans g5⟩
        | true =>
          have HNN := Lib.hid (HNX.out hx)
          clear hx
          go_wp2_with fail
          go_roundg (6 - (1 + 1))
          case measure => rw [HGK.out]; omega
          case rel => exact ⟨1 + 1, by omega, by omega, by go_num, HNN.out, HG.out.trans g5⟩
      · have x0 := b4.cell 2
        have HC := Lib.hid (cond2_any A c l w.heap.size wr hns hts HX1.out)
        clear b4
        go_wp2_with fail
        refine HC.out.mono ?_
        rintro e w5 ⟨rfl, g5⟩
        cases hx : txB l with
        | false =>
          have HFF := Lib.hid (HF.out 2 hx)
          clear hx
          go_wp2_with fail
          go_ret
          exact ⟨ret_bool (by rw [HFF.out]), (HG0.out.trans HG.out).trans g5⟩
        | true =>
          have HNN := Lib.hid (HNX.out hx)
          clear hx
          go_wp2_with fail
          go_roundg (6 - (2 + 1))
          case measure => rw [HGK.out]; omega
          case rel => exact ⟨2 + 1, by omega, by omega, by go_num, HNN.out, HG.out.trans g5⟩
      · have x0 := b4.cell 3
        have HC := Lib.hid (cond3_any A c l w.heap.size wr (by omega) HX1.out)
        clear b4
        go_wp2_with fail
        refine HC.out.mono ?_
        rintro e w5 ⟨rfl, g5⟩
        cases hx : cnB l with
        | false =>
          have HFF := Lib.hid (HF.out 3 hx)
          clear hx
          go_wp2_with fail
          go_ret
          exact ⟨ret_bool (by rw [HFF.out]), (HG0.out.trans HG.out).trans g5⟩
        | true =>
          have HNN := Lib.hid (HNX.out hx)
          clear hx
          go_wp2_with fail
          go_roundg (6 - (3 + 1))
          case measure => rw [HGK.out]; omega
          case rel => exact ⟨3 + 1, by omega, by omega, by go_num, HNN.out, HG.out.trans g5⟩
      · have x0 := b4.cell 4
        have HC := Lib.hid (cond4_any A c l w.heap.size wr HL5.out hs HX1.out)
        clear b4
        go_wp2_with fail
        refine HC.out.mono ?_
        rintro e w5 ⟨rfl, g5⟩
        cases hx : jnB l with
        | false =>
          have HFF := Lib.hid (HF.out 4 hx)
          clear hx
          go_wp2_with fail
          go_ret
          exact ⟨ret_bool (by rw [HFF.out]), (HG0.out.trans HG.out).trans g5⟩
        | true =>
          have HNN := Lib.hid (HNX.out hx)
          clear hx
          go_wp2_with fail
          go_roundg (6 - (4 + 1))
          case measure => rw [HGK.out]; omega
          case rel => exact ⟨4 + 1, by omega, by omega, by go_num, HNN.out, HG.out.trans g5⟩
      · have x0 := b4.cell 5
        have HC := Lib.hid (cond5_any A c l t w.heap.size (w.heap.size + 1 + 1) (w.heap.size + 1) wr HL5.out hs (HA.out 4 (by omega)) HX1.out HX3.out HX2.out)
        clear b4
        go_wp2_with fail
        refine HC.out.mono ?_
        rintro e w5 ⟨rfl, g5⟩
        cases hx : inB l t with
        | false =>
          have HFF := Lib.hid (HF.out 5 hx)
          clear hx
          go_wp2_with fail
          go_ret
          exact ⟨ret_bool (by rw [HFF.out]), (HG0.out.trans HG.out).trans g5⟩
        | true =>
          have HNN := Lib.hid (HNX.out hx)
          clear hx
          go_wp2_with fail
          go_roundg (6 - (5 + 1))
          case measure => rw [HGK.out]; omega
          case rel => exact ⟨5 + 1, by omega, by omega, by go_num, HNN.out, HG.out.trans g5⟩
    · have HAT := Lib.hid (HT.out (fun j hj => HA.out j (by omega)))
      clear b4
      go_wp2_with fail
      go_ret
      exact ⟨ret_bool (by rw [HAT.out]), HG0.out.trans HG.out⟩
end Go.Proofs.Ytkiciojipiakoaa
