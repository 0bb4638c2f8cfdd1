/- Chapter 6: SpaceAllocates. -/
import Derived.Test.YtenbcjlikoajdaaSpcI
namespace Go.Proofs.Ytenbcjlikoajdaa
set_option linter.unusedVariables false
set_option linter.unusedSimpArgs false
set_option linter.unusedSectionVars false
open Go.RowKit
theorem ints_vlen {l : List (Nat × Nat)} {k : List (Int × Int)} {n : Nat} (h : ints l = k) (hn : l.length ≤ n) : k.length ≤ n := by subst h; rw [ints_len]; exact hn
set_option maxRecDepth 100000 in
set_option maxHeartbeats 8000000 in
theorem spaceAllocates_any (A : Option Addr) (c : Nat) (l : List (Int × Int)) (n : Int) (n0 : -9223372036854775808 ≤ n) (n1 : n ≤ 9223372036854775807) (most : Int) (w : World) (hl : l.length ≤ 9223372036854775807) (hr : RunsAt w w.heap.size A l) :
    Calls Try.prog 3 #[.slice A l.length c, .int .i64 n, .int .i64 most] w fun e w' => e = .returned (.bool true) ∧ Grew w w' := by
  have hG := Grew.refl w
  by_cases h30 : l.length ≤ 30
  · obtain ⟨⟨⟨a, b⟩, ok⟩, hb⟩ : ∃ X, bestS (memS l) n = X := ⟨_, rfl⟩
    obtain ⟨k, hk⟩ : ∃ k, ints (allocS (memS l) n most).1 = k := ⟨_, rfl⟩
    obtain ⟨er, he⟩ : ∃ er, (allocS (memS l) n most).2 = er := ⟨_, rfl⟩
    have hkl := ints_vlen hk (alloc_len (memS l) n most)
    have HB := Lib.hid hb
    have HK := Lib.hid hk
    have HE := Lib.hid he
    have e1 : (a == a) = true := by rw [beq_iff_eq]
    have e2 : (b == b) = true := by rw [beq_iff_eq]
    have e3 : (er == er) = true := by rw [beq_iff_eq]
    have e4 : (ok == ok) = true := by rw [beq_iff_eq]
    clear hb hk he
    go_enter Try.func3, Try.ntmps3
    go_wp2_with fail
    refine (awake_any _).mono ?_
    rintro e ws ⟨rfl, gs⟩
    replace hr := hr.hold gs
    replace hG := hG.trans gs
    clear gs
    go_wp2_with fail
    refine (best_val rfl (by omega) hr n n0 n1 a b ok HB.out).mono ?_
    rintro e ws ⟨rfl, gs⟩
    replace hr := hr.hold gs
    replace hG := hG.trans gs
    clear gs
    have hb1 := Blk.new ws 25 #[.int .i64 a, .int .i64 b] rfl
    have gal := (Grew.refl ws).alloc (.cells #[.int .i64 a, .int .i64 b] 25)
    replace hr := hr.hold gal
    replace hG := hG.trans gal
    clear gal
    go_wp2_with fail
    refine (rbest_val rfl (by omega) hr n n0 n1 a b ok HB.out).mono ?_
    rintro e ws ⟨rfl, gs⟩
    replace hr := hr.hold gs
    replace hb1 := hb1.hold gs
    replace hG := hG.trans gs
    clear gs
    have hb2 := Blk.new ws 25 #[.int .i64 a, .int .i64 b] rfl
    have gal := (Grew.refl ws).alloc (.cells #[.int .i64 a, .int .i64 b] 25)
    replace hr := hr.hold gal
    replace hb1 := hb1.hold gal
    replace hG := hG.trans gal
    clear gal
    go_wp2_with fail
    refine (alloc_val rfl (by omega) hr n n0 n1 most k er HK.out HE.out).mono ?_
    rintro e ws ⟨A3, c3, rfl, r3, gs⟩
    replace hr := hr.hold gs
    replace hb1 := hb1.hold gs
    replace hb2 := hb2.hold gs
    replace hG := hG.trans gs
    clear gs
    go_wp2_with fail
    refine (ralloc_val rfl (by omega) hr n n0 n1 most k er HK.out HE.out).mono ?_
    rintro e ws ⟨A4, c4, rfl, r4, gs⟩
    replace hb1 := hb1.hold gs
    replace hb2 := hb2.hold gs
    replace r3 := r3.hold gs
    replace hG := hG.trans gs
    clear gs
    have x0 := hb1.cell 0
    have x1 := hb1.cell 1
    have y0 := hb2.cell 0
    have y1 := hb2.cell 1
    have l1 := hb1.lt
    have l2 := hb2.lt
    go_wp2_with fail
    refine (same_val _ _ _ _ _ _ _ _ _ rfl rfl (by omega) (by omega) r3 r4 true (by simp)).mono ?_
    rintro e ws ⟨rfl, gs⟩
    replace hG := hG.trans gs
    clear gs
    go_wp2_with fail
    go_ret
    exact ⟨rfl, hG⟩
  · go_enter Try.func3, Try.ntmps3
    go_wp2_with fail
    refine (awake_any _).mono ?_
    rintro e ws ⟨rfl, gs⟩
    replace hG := hG.trans gs
    clear gs
    go_wp2_with fail
    refine (awake_any _).mono ?_
    rintro e ws ⟨rfl, gs⟩
    replace hG := hG.trans gs
    clear gs
    go_wp2_with fail
    go_ret
    exact ⟨rfl, hG⟩
end Go.Proofs.Ytenbcjlikoajdaa
