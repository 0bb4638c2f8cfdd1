/- Chapter 3: DeviceNew. -/
import Derived.Test.YtklojcgbokmkhaaDevAE
namespace Go.Proofs.Ytklojcgbokmkhaa
set_option linter.unusedVariables false
set_option linter.unusedSimpArgs false
set_option linter.unusedSectionVars false
open Go.RowKit
open Go.Maps (Keyed)
attribute [local go_sem ↓] Go.wp_at_zero Go.wp_at_succ
set_option maxRecDepth 100000 in
set_option maxHeartbeats 4000000 in
theorem deviceNew_any (n : Int) (h1 : -9223372036854775808 ≤ n) (h2 : n ≤ 9223372036854775807) (w : World) : Calls Try.prog 3 #[.int .i64 n] w fun e w' => e = .returned (.bool true) ∧ Grew w w' := by
  have HAW := Lib.hid awake_any
  by_cases hb : 2000 < n
  · go_enter Try.func3, Try.ntmps3
    go_wp2_with fail
    refine (HAW.out w).mono ?_
    rintro e w1 ⟨rfl, g1⟩
    go_wp2_with fail
    refine (HAW.out w1).mono ?_
    rintro e w2 ⟨rfl, g2⟩
    go_wp2_with fail
    go_ret
    exact ⟨rfl, g1.trans g2⟩
  · by_cases hr : 1 ≤ n ∧ n ≤ 1155
    · obtain ⟨m, rfl⟩ : ∃ m : Nat, n = (m : Int) := ⟨n.toNat, by omega⟩
      have hm1 : 1 ≤ m := by omega
      have hm2 : m ≤ 1155 := by omega
      go_enter Try.func3, Try.ntmps3
      go_wp2_with fail
      refine (HAW.out w).mono ?_
      rintro e w1 ⟨rfl, g1⟩
      go_wp2_with fail
      refine (new_live m w1 hm1 hm2).mono ?_
      rintro e w2 ⟨x, rfl, hl⟩
      have HL := Lib.hid hl
      clear hl
      go_wp2_with fail
      refine (rnew_any m w2 hm1 hm2).mono ?_
      rintro e w3 ⟨p, rfl, hR, hg3, hf3⟩
      have HL3 := Lib.hid (HL.out.grew hg3)
      have HR := Lib.hid hR
      have hb4 := Blk.new w3 32 #[.slice none 0 0, .slice none 0 0, .slice none 0 0, .slice none 0 0, .bool false, .int .i64 0, .slice none 0 0] rfl
      clear hR hg3 hf3
      go_upto_region 5 with (refine wpList_store_blk rfl 32 _ _ rfl w3.heap.size (rv p (newD m)) rfl rfl 32 _ hb4 rfl info_rdev (rv_one _ _) ?_)
      have hb5 := hb4.setRow (rv p (newD m))
      have hg5 : Grew w3 ((w3.alloc (.cells #[.slice none 0 0, .slice none 0 0, .slice none 0 0, .slice none 0 0, .bool false, .int .i64 0, .slice none 0 0] 32)).setRow w3.heap.size (rv p (newD m))) := ((Grew.refl w3).alloc (.cells #[.slice none 0 0, .slice none 0 0, .slice none 0 0, .slice none 0 0, .bool false, .int .i64 0, .slice none 0 0] 32)).setRow (Nat.le_refl _) _
      obtain ⟨w5, hw5⟩ : ∃ w5, w5 = (w3.alloc (.cells #[.slice none 0 0, .slice none 0 0, .slice none 0 0, .slice none 0 0, .bool false, .int .i64 0, .slice none 0 0] 32)).setRow w3.heap.size (rv p (newD m)) := ⟨_, rfl⟩
      rw [← hw5] at hb5 hg5 ⊢
      clear hw5 hb4
      have HL5 := Lib.hid (HL3.out.grew hg5)
      have HR5 := Lib.hid (HR.out.grew hg5)
      have HS := Lib.hid (same_any HL5.out HR5.out (by rw [newD_pend]; decide))
      obtain ⟨E, hE⟩ : ∃ E, newD m = E := ⟨_, rfl⟩
      rw [hE] at hb5 HS ⊢
      clear hE hg5
      unfold rv at hb5 HS
      have x0 := hb5.cell 0
      have x1 := hb5.cell 1
      have x2 := hb5.cell 2
      have x3 := hb5.cell 3
      have x4 := hb5.cell 4
      have x5 := hb5.cell 5
      have x6 := hb5.cell 6
      have hxl := hb5.lt
      have HGW := Lib.hid (g1.trans HL5.out.base)
      clear hb5 g1
      go_wp2_with fail
      refine HS.out.mono ?_
      rintro e w6 ⟨rfl, g6⟩
      go_wp2_with fail
      go_ret
      exact ⟨rfl, HGW.out.trans g6⟩
    · have hbad : n < 1 ∨ 1155 < n := by omega
      have HN := Lib.hid (fun w => new_err n w hbad)
      have HRN := Lib.hid (fun w => rnew_err n w hbad)
      clear hbad hr
      go_enter Try.func3, Try.ntmps3
      go_wp2_with fail
      refine (HAW.out w).mono ?_
      rintro e w1 ⟨rfl, g1⟩
      go_wp2_with fail
      refine (HN.out w1).mono ?_
      rintro e w2 ⟨rfl, g2⟩
      go_wp2_with fail
      refine (HRN.out w2).mono ?_
      rintro e w3 ⟨rfl, g3⟩
      have hg := ((g1.trans g2).trans g3)
      clear g1 g2 g3
      go_wp2_with fail
      go_ret
      refine ⟨rfl, ?_⟩
      (repeat' first | (with_reducible exact Grew.refl _) | (with_reducible assumption) | (with_reducible refine Grew.alloc ?_ _) | (with_reducible refine Grew.drew ?_) | (with_reducible refine Grew.drewN ?_ _) | (with_reducible refine Grew.setRow ?_ (by first | (simp; done) | (simp; omega) | omega) _) | (with_reducible refine Grew.setCell ?_ (by first | (simp; done) | (simp; omega) | omega) _) | ((with_reducible apply Grew.trans); rotate_left; (with_reducible assumption)) | ((with_reducible apply Grew.turn); rotate_left; (with_reducible assumption); (focus (intro i hi; first | omega | (simp at hi; omega)))) | fail)
end Go.Proofs.Ytklojcgbokmkhaa
