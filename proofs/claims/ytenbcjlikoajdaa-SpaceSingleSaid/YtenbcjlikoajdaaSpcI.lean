/- Chapter 6: awake. -/
import Derived.Test.YtenbcjlikoajdaaSpcH
namespace Go.Proofs.Ytenbcjlikoajdaa
set_option linter.unusedVariables false
set_option linter.unusedSimpArgs false
set_option linter.unusedSectionVars false
open Go.RowKit
theorem Blk.hold {w w' : World} {g : Nat} {t : TypeId} {cs : Array Value} (h : Blk w g t cs) (hg : Grew w w') : Blk w' g t cs := h.grew hg
set_option maxRecDepth 100000 in
theorem bestEx : bestS (memS exR) 3 = ((30, 3), true) := by decide +kernel
set_option maxRecDepth 100000 in
theorem allocEx2 : allocS (memS exR) 6 2 = ([(10, 4), (30, 2)], 0) := by decide +kernel
set_option maxRecDepth 100000 in
theorem allocEx1 : allocS (memS exR) 6 1 = ([], 14) := by decide +kernel
set_option maxRecDepth 100000 in
theorem extEx : extS [(8, 2)] exR 5 = ([(8, 6), (20, 1)], 0) := by decide +kernel
set_option maxRecDepth 100000 in
set_option maxHeartbeats 4000000 in
theorem awake_any (w : World) : Calls Try.prog 11 #[] w fun e w' => e = .returned (.bool true) ∧ Grew w w' := by
  have hG := Grew.refl w
  go_enter Try.func11, Try.ntmps11
  go_wp2_with fail
  refine (example_val _).mono ?_
  rintro e ws ⟨A1, c1, rfl, r1, gs⟩
  replace hG := hG.trans gs
  clear gs
  go_wp2_with fail
  refine (best_val rfl (by decide) r1 3 (by omega) (by omega) 30 3 true bestEx).mono ?_
  rintro e ws ⟨rfl, gs⟩
  replace hG := hG.trans gs
  clear gs
  have hb1 := Blk.new ws 25 #[.int .i64 30, .int .i64 3] rfl
  replace hG := hG.alloc (.cells #[.int .i64 30, .int .i64 3] 25)
  clear r1
  go_wp2_with fail
  refine (example_val _).mono ?_
  rintro e ws ⟨A2, c2, rfl, r2, gs⟩
  replace hb1 := hb1.hold gs
  replace hG := hG.trans gs
  clear gs
  go_wp2_with fail
  refine (alloc_val rfl (by decide) r2 6 (by omega) (by omega) 2 [(10, 4), (30, 2)] 0 (by rw [allocEx2]; rfl) (by rw [allocEx2])).mono ?_
  rintro e ws ⟨A3, c3, rfl, r3, gs⟩
  replace hb1 := hb1.hold gs
  replace hG := hG.trans gs
  clear gs
  clear r2
  go_wp2_with fail
  refine (example_val _).mono ?_
  rintro e ws ⟨A4, c4, rfl, r4, gs⟩
  replace hb1 := hb1.hold gs
  replace r3 := r3.hold gs
  replace hG := hG.trans gs
  clear gs
  go_wp2_with fail
  refine (alloc_val rfl (by decide) r4 6 (by omega) (by omega) 1 [] 14 (by rw [allocEx1]; rfl) (by rw [allocEx1])).mono ?_
  rintro e ws ⟨A5, c5, rfl, r5, gs⟩
  replace hb1 := hb1.hold gs
  replace r3 := r3.hold gs
  replace hG := hG.trans gs
  clear gs
  clear r4 r5
  have r8 : RunsAt (ws.alloc (.cells #[.int .i64 8, .int .i64 2] 25)) (ws.alloc (.cells #[.int .i64 8, .int .i64 2] 25)).heap.size (some ⟨ws.heap.size, 0, none⟩) [(8, 2)] := blk_runs (Blk.new ws _ _ rfl) rfl (by simp [okRun])
  have gal := (Grew.refl ws).alloc (.cells #[.int .i64 8, .int .i64 2] 25)
  replace hb1 := hb1.hold gal
  replace r3 := r3.hold gal
  replace hG := hG.trans gal
  clear gal
  go_wp2_with fail
  refine (example_val _).mono ?_
  rintro e ws ⟨A6, c6, rfl, r6, gs⟩
  replace hb1 := hb1.hold gs
  replace r3 := r3.hold gs
  replace r8 := r8.hold gs
  replace hG := hG.trans gs
  clear gs
  go_wp2_with fail
  refine (extend_val rfl rfl (by decide) (by decide) r8 r6 5 (by omega) (by omega) [(8, 6), (20, 1)] 0 (by rw [extEx]; rfl) (by rw [extEx])).mono ?_
  rintro e ws ⟨A7, c7, rfl, r7, gs⟩
  replace hb1 := hb1.hold gs
  replace r3 := r3.hold gs
  replace hG := hG.trans gs
  clear gs
  clear r6 r8
  have x0 := hb1.cell 0
  have x1 := hb1.cell 1
  have hlb := hb1.lt
  have gal := (Grew.refl ws).alloc (.cells #[.int .i64 10, .int .i64 4, .int .i64 30, .int .i64 2] 25)
  have ra : RunsAt (ws.alloc (.cells #[.int .i64 10, .int .i64 4, .int .i64 30, .int .i64 2] 25)) (ws.alloc (.cells #[.int .i64 10, .int .i64 4, .int .i64 30, .int .i64 2] 25)).heap.size (some ⟨ws.heap.size, 0, none⟩) [(10, 4), (30, 2)] := blk_runs (Blk.new ws _ _ rfl) rfl (by simp [okRun])
  replace r3 := r3.hold gal
  replace r7 := r7.hold gal
  replace hG := hG.trans gal
  clear gal
  go_wp2_with fail
  refine (same_val _ _ _ _ _ _ _ _ _ rfl rfl (by decide) (by decide) r3 ra true (by decide)).mono ?_
  rintro e ws ⟨rfl, gs⟩
  replace r7 := r7.hold gs
  replace hG := hG.trans gs
  clear gs
  have gal := (Grew.refl ws).alloc (.cells #[.int .i64 8, .int .i64 6, .int .i64 20, .int .i64 1] 25)
  have rb : RunsAt (ws.alloc (.cells #[.int .i64 8, .int .i64 6, .int .i64 20, .int .i64 1] 25)) (ws.alloc (.cells #[.int .i64 8, .int .i64 6, .int .i64 20, .int .i64 1] 25)).heap.size (some ⟨ws.heap.size, 0, none⟩) [(8, 6), (20, 1)] := blk_runs (Blk.new ws _ _ rfl) rfl (by simp [okRun])
  replace r7 := r7.hold gal
  replace hG := hG.trans gal
  clear gal x0 x1 hlb
  go_wp2_with fail
  refine (same_val _ _ _ _ _ _ _ _ _ rfl rfl (by decide) (by decide) r7 rb true (by decide)).mono ?_
  rintro e ws ⟨rfl, gs⟩
  replace hG := hG.trans gs
  clear gs
  go_wp2_with fail
  go_ret
  exact ⟨rfl, hG⟩
end Go.Proofs.Ytenbcjlikoajdaa
