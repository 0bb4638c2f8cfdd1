/- Chapter 6: Free, on both sides. -/
import Derived.Test.YtenbcjlikoajdaaSpcP
import Derived.Test.YtenbcjlikoajdaaSpcK
namespace Go.Proofs.Ytenbcjlikoajdaa
set_option linter.unusedVariables false
set_option linter.unusedSimpArgs false
set_option linter.unusedSectionVars false
open Go.RowKit
def freeB (first last : Int) (i : Nat) : Bool := decide (first ≤ (i : Int) ∧ (i : Int) < last)
def freeS (first last : Int) (l : List (Int × Int)) : List (Int × Int) := ints (normS fun i => freeB first last i && !memS l i)
theorem mem_one (a c : Nat) (h : a + c ≤ 128) (hc : 0 < c) (i : Nat) : memS [((a : Int), (c : Int))] i = decide (a ≤ i ∧ i < a + c) := by
  show (inS (clipS ((a : Int), (c : Int))) i || false) = _
  rw [clipS_nat a c h hc, Bool.or_false]
  rfl
section
variable {A : Option Addr} {c m : Nat} {l : List (Int × Int)} {w : World}
set_option maxRecDepth 100000 in
set_option maxHeartbeats 4000000 in
theorem free_val (hn : m = l.length) (hl : l.length ≤ 1000) (hr : RunsAt w w.heap.size A l) (first last : Int) (f0 : -9223372036854775808 ≤ first) (f1 : first ≤ 9223372036854775807) (t0 : -9223372036854775808 ≤ last) (t1 : last ≤ 9223372036854775807) (k : List (Int × Int)) (hk : freeS first last l = k) :
    Calls Try.prog 23 #[.int .i64 first, .int .i64 last, .slice A m c] w fun e w' => ∃ A c, e = .returned (.slice A k.length c) ∧ RunsAt w' w'.heap.size A k ∧ Grew w w' := by
  subst hn
  have hG := Grew.refl w
  obtain ⟨a, ha⟩ : ∃ a : Nat, max (0 : Int) first = (a : Int) := ⟨first.toNat, by omega⟩
  obtain ⟨b, hb⟩ : ∃ b : Int, min (128 : Int) last = b := ⟨_, rfl⟩
  by_cases h1 : b ≤ (a : Int)
  · have hk0 : k = [] := by
      rw [← hk]
      unfold freeS
      rw [normS_false (fun i hi => by
        show (freeB first last i && !memS l i) = false
        unfold freeB
        rw [decide_eq_false (by omega), Bool.false_and])]
      rfl
    subst hk0
    clear hk
    go_enter Try.func23, Try.ntmps23
    go_wp2_with fail
    go_ret
    exact ⟨none, 0, rfl, nil_runs _, hG⟩
  · obtain ⟨d, hd⟩ : ∃ d : Nat, b - (a : Int) = (d : Int) := ⟨(b - a).toNat, by omega⟩
    have hd0 : 0 < d := by omega
    have hd1 : a + d ≤ 128 := by omega
    have HK := Lib.hid (show ints (normS fun i => memS [((a : Int), (d : Int))] i && !memS l i) = k from by
      rw [← hk]
      unfold freeS
      congr 1
      refine normS_congr (fun i hi => ?_)
      show (memS [((a : Int), (d : Int))] i && !memS l i) = (freeB first last i && !memS l i)
      rw [mem_one a d hd1 hd0]
      unfold freeB
      congr 1
      rw [decide_eq_decide]
      omega)
    have r8 : RunsAt (w.alloc (.cells #[.int .i64 (a : Int), .int .i64 (d : Int)] 25)) (w.alloc (.cells #[.int .i64 (a : Int), .int .i64 (d : Int)] 25)).heap.size (some ⟨w.heap.size, 0, none⟩) [((a : Int), (d : Int))] := blk_runs (Blk.new w _ _ rfl) rfl (by intro r hr; rw [List.mem_singleton.1 hr]; unfold okRun; simp only; omega)
    have gal := (Grew.refl w).alloc (.cells #[.int .i64 (a : Int), .int .i64 (d : Int)] 25)
    replace hr := hr.hold gal
    have hG := gal
    have hw := (show IntKind.i64.wrap (b - (a : Int)) = (d : Int) from by rw [IntKind.wrap_i64]; omega)
    clear gal hk
    go_enter Try.func23, Try.ntmps23
    go_wp2_with fail
    refine (minus_val rfl rfl (by simp) (by omega) r8 hr k HK.out).mono ?_
    rintro e ws ⟨A3, c3, rfl, r3, gs⟩
    go_wp2_with fail
    go_ret
    exact ⟨_, _, rfl, r3, hG.trans gs⟩
end
end Go.Proofs.Ytenbcjlikoajdaa
