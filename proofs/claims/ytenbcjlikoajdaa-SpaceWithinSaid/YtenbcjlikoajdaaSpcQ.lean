/- Chapter 6: SpaceWithin. -/
import Derived.Test.YtenbcjlikoajdaaSpcP
namespace Go.Proofs.Ytenbcjlikoajdaa
set_option linter.unusedVariables false
set_option linter.unusedSimpArgs false
set_option linter.unusedSectionVars false
open Go.RowKit
set_option maxRecDepth 100000 in
set_option maxHeartbeats 8000000 in
theorem spaceWithin_any (A : Option Addr) (c : Nat) (l : List (Int × Int)) (n : Int) (n0 : -9223372036854775808 ≤ n) (n1 : n ≤ 9223372036854775807) (most : Int) (m1 : most ≤ 9223372036854775807) (w : World) (hl : l.length ≤ 9223372036854775807) (hr : RunsAt w w.heap.size A l) :
    Calls Try.prog 5 #[.slice A l.length c, .int .i64 n, .int .i64 most] w fun e w' => e = .returned (.bool true) ∧ Grew w w' := by
  have hG := Grew.refl w
  by_cases h30 : l.length ≤ 30
  rotate_left
  · go_enter Try.func5, Try.ntmps5
    go_wp2_with fail
    refine (awake_any _).mono ?_
    rintro e ws ⟨rfl, gs⟩
    replace hG := hG.trans gs
    clear gs
    go_wp2_with fail
    refine (awake_any _).mono ?_
    rintro e ws ⟨rfl, gs⟩
    replace hG := hG.trans gs
    clear gs
    go_wp2_with fail
    go_ret
    exact ⟨rfl, hG⟩
  by_cases h1 : n < 1
  · go_enter Try.func5, Try.ntmps5
    go_wp2_with fail
    refine (awake_any _).mono ?_
    rintro e ws ⟨rfl, gs⟩
    replace hG := hG.trans gs
    clear gs
    go_wp2_with fail
    refine (awake_any _).mono ?_
    rintro e ws ⟨rfl, gs⟩
    replace hG := hG.trans gs
    clear gs
    go_wp2_with fail
    go_ret
    exact ⟨rfl, hG⟩
  by_cases h2 : most < 1
  · go_enter Try.func5, Try.ntmps5
    go_wp2_with fail
    refine (awake_any _).mono ?_
    rintro e ws ⟨rfl, gs⟩
    replace hG := hG.trans gs
    clear gs
    go_wp2_with fail
    refine (awake_any _).mono ?_
    rintro e ws ⟨rfl, gs⟩
    replace hG := hG.trans gs
    clear gs
    go_wp2_with fail
    go_ret
    exact ⟨rfl, hG⟩
  rcases alloc_ok l n most (by omega) (by omega) with ⟨x, hx, hlm, hsz, hnd, hin, hb⟩ | ⟨hx, hroom⟩
  · obtain ⟨k, hk⟩ : ∃ k, ints x = k := ⟨_, rfl⟩
    have hkl : k.length = x.length := by rw [← hk, ints_len]
    rw [hk] at hsz hnd hin
    have HD := Lib.hid (show decide (seqS k).Nodup = true from decide_eq_true hnd)
    have HM := Lib.hid (show ints (normS fun i => memS k i && !memS l i) = [] from by
      have h9 : normS (fun i => memS k i && !memS l i) = [] := normS_false (fun i _ => by
        cases hm : memS k i with
        | false => rfl
        | true => rw [hin i hm]; rfl)
      rw [h9]; rfl)
    have HK := Lib.hid (show ints (allocS (memS l) n most).1 = k from by rw [hx]; exact hk)
    have HE := Lib.hid (show (allocS (memS l) n most).2 = 0 from by rw [hx])
    have hxl : x.length ≤ 128 := by have := alloc_len (memS l) n most; rw [hx] at this; exact this
    have hlm' : (k.length : Int) ≤ most := by omega
    have hk2 : k.length ≤ 128 := by omega
    clear hkl hxl
    obtain ⟨s, hs⟩ : ∃ s, sizeS k = s := ⟨_, rfl⟩
    rw [hs] at hsz
    have HS := Lib.hid hs
    clear hx hnd hin hb hk hs hlm
    subst hsz
    go_enter Try.func5, Try.ntmps5
    go_wp2_with fail
    refine (awake_any _).mono ?_
    rintro e ws ⟨rfl, gs⟩
    replace hr := hr.hold gs
    replace hG := hG.trans gs
    clear gs
    go_wp2_with fail
    refine (alloc_val rfl (by omega) hr (s : Int) n0 n1 most k 0 HK.out HE.out).mono ?_
    rintro e ws ⟨A3, c3, rfl, r3, gs⟩
    replace hr := hr.hold gs
    replace hG := hG.trans gs
    clear gs
    go_wp2_with fail
    refine (size_val rfl (by omega) r3 s HS.out).mono ?_
    rintro e ws ⟨rfl, gs⟩
    replace hr := hr.hold gs
    replace r3 := r3.hold gs
    replace hG := hG.trans gs
    clear gs
    go_wp2_with fail
    refine (disjoint_val rfl (by omega) r3 true HD.out).mono ?_
    rintro e ws ⟨rfl, gs⟩
    replace hr := hr.hold gs
    replace r3 := r3.hold gs
    replace hG := hG.trans gs
    clear gs
    go_wp2_with fail
    refine (minus_val rfl rfl (by omega) (by omega) r3 hr [] HM.out).mono ?_
    rintro e ws ⟨A4, c4, rfl, r4, gs⟩
    replace hG := hG.trans gs
    clear gs
    go_wp2_with fail
    go_ret
    exact ⟨rfl, hG⟩
  · have HK := Lib.hid (show ints (allocS (memS l) n most).1 = [] from by rw [hx]; rfl)
    have HE := Lib.hid (show (allocS (memS l) n most).2 = 14 from by rw [hx])
    obtain ⟨s, hs⟩ : ∃ s : Int, ((cntL ((sortS (normS (memS l))).take most.toNat) : Nat) : Int) = s := ⟨_, rfl⟩
    rw [hs] at hroom
    have HS := Lib.hid hs
    clear hx hs
    go_enter Try.func5, Try.ntmps5
    go_wp2_with fail
    refine (awake_any _).mono ?_
    rintro e ws ⟨rfl, gs⟩
    replace hr := hr.hold gs
    replace hG := hG.trans gs
    clear gs
    go_wp2_with fail
    refine (alloc_val rfl (by omega) hr n n0 n1 most [] 14 HK.out HE.out).mono ?_
    rintro e ws ⟨A3, c3, rfl, r3, gs⟩
    replace hr := hr.hold gs
    replace hG := hG.trans gs
    clear gs
    go_wp2_with fail
    refine (room_val rfl (by omega) hr most (by omega) m1 s HS.out).mono ?_
    rintro e ws ⟨rfl, gs⟩
    replace hG := hG.trans gs
    clear gs
    go_wp2_with fail
    go_ret
    exact ⟨rfl, hG⟩
end Go.Proofs.Ytenbcjlikoajdaa
