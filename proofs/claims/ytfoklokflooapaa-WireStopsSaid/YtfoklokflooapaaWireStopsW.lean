/- WireStops' walk. -/
import Derived.Test.YtfoklokflooapaaWireOps
namespace Go.Proofs.Ytfoklokflooapaa
open Go.RowKit
theorem RTxt_neg (s : ByteArray) : RTxt s 0 (-1) = (⟨#[]⟩, ⟨#[]⟩, 8) ∨ RTxt s 0 (-1) = (⟨#[]⟩, ⟨#[]⟩, 11) := by
  by_cases h : decN s.data.toList = 0
  · right
    have h1 : RNum s 0 = (0, ⟨#[]⟩, 11) := by rw [RNum, if_neg (by decide), if_pos h]
    have h2 : RCnt s 0 (-1) = (0, ⟨#[]⟩, 11) := by rw [RCnt, h1, if_pos (by decide)]
    rw [RTxt, h2, if_pos (by decide)]
  · left
    have h1 : RNum s 0 = (decV s.data.toList, s.extract (decN s.data.toList) s.size, 0) := by rw [RNum, if_neg (by decide), if_neg h]
    have h2 : RCnt s 0 (-1) = (0, ⟨#[]⟩, 8) := by rw [RCnt, h1, if_neg (by simp), if_pos (.inl (by decide))]
    rw [RTxt, h2, if_pos (by decide)]
theorem RNum_err (s : ByteArray) (e : Int) (h : e ≠ 0) : RNum s e = (0, s, e) := by rw [RNum, if_pos h]
theorem RBool_err (s : ByteArray) (e : Int) (h : e ≠ 0) : RBool s e = (false, s, e) := by rw [RBool, if_pos h]
theorem RCnt_err (s : ByteArray) (e m : Int) (h : e ≠ 0) : RCnt s e m = (0, s, e) := by rw [RCnt, RNum_err s e h, if_pos h]
theorem RTxt_err (s : ByteArray) (e m : Int) (h : e ≠ 0) : RTxt s e m = (⟨#[]⟩, s, e) := by rw [RTxt, RCnt_err s e m h, if_pos h]
section
variable (g : Nat) (err : Int) (w : World) (h : Rd w g ⟨#[]⟩ err) (he : err ≠ 0)
include h he
theorem stop_number : Calls Try.prog 25 #[.pointer (some ⟨g, 0, none⟩)] w fun e w' => e = .returned (.int .u64 0) ∧ Turned (· = g) w w' ∧ Rd w' g ⟨#[]⟩ err := by
  have := rnumber_any g ⟨#[]⟩ err w h (by decide); rw [RNum_err _ _ he] at this; exact this
theorem stop_int : Calls Try.prog 27 #[.pointer (some ⟨g, 0, none⟩)] w fun e w' => e = .returned (.int .i64 0) ∧ Turned (· = g) w w' ∧ Rd w' g ⟨#[]⟩ err := by
  have := rint_any g ⟨#[]⟩ err w h (by decide); rw [RNum_err _ _ he] at this; rw [show unzig (0, (⟨#[]⟩ : ByteArray), err).1 = 0 from (by show unzig 0 = 0; decide)] at this; exact this
theorem stop_bool : Calls Try.prog 29 #[.pointer (some ⟨g, 0, none⟩)] w fun e w' => e = .returned (.bool false) ∧ Turned (· = g) w w' ∧ Rd w' g ⟨#[]⟩ err := by
  have := rbool_any g ⟨#[]⟩ err w h (by decide); rw [RBool_err _ _ he] at this; exact this
theorem stop_text (m : Int) (h0 : -9223372036854775808 ≤ m) (h1 : m ≤ 9223372036854775807) : Calls Try.prog 22 #[.pointer (some ⟨g, 0, none⟩), .int .i64 m] w fun e w' => e = .returned (.string ⟨#[]⟩) ∧ Turned (· = g) w w' ∧ Rd w' g ⟨#[]⟩ err := by
  have := rtext_any g ⟨#[]⟩ err m w h (by decide) h0 h1; rw [RTxt_err _ _ _ he] at this; exact this
theorem stop_count (m : Int) (h0 : -9223372036854775808 ≤ m) (h1 : m ≤ 9223372036854775807) : Calls Try.prog 21 #[.pointer (some ⟨g, 0, none⟩), .int .i64 m] w fun e w' => e = .returned (.int .i64 0) ∧ Turned (· = g) w w' ∧ Rd w' g ⟨#[]⟩ err := by
  have := rcount_any g ⟨#[]⟩ err m w h (by decide) h0 h1; rw [RCnt_err _ _ _ he] at this; exact this
theorem stop_end : Calls Try.prog 23 #[.pointer (some ⟨g, 0, none⟩)] w fun e w' => e = .returned (.int .i64 err) ∧ Grew w w' := by
  have := rend_any g ⟨#[]⟩ err w h; rw [REnd, if_neg (fun hh => he hh.1)] at this; exact this
end
theorem stop_left (g : Nat) (err : Int) (w : World) (h : Rd w g ⟨#[]⟩ err) : Calls Try.prog 32 #[.pointer (some ⟨g, 0, none⟩)] w fun e w' => e = .returned (.int .i64 0) ∧ w = w' := rleft_any g ⟨#[]⟩ err w h (by decide)

set_option maxRecDepth 100000 in
set_option maxHeartbeats 8000000 in
theorem wireStops_8 (s : ByteArray) (A : Option Addr) (c : Nat) (l : List (Nat × Int)) (w : World) (hs : s.size ≤ 300) (hl : l.length ≤ 30)
    (hops : OpsAt w w.heap.size A l) (hR : RTxt s 0 (-1) = (⟨#[]⟩, ⟨#[]⟩, 8)) :
    Calls Try.prog 8 #[.string s, .slice A l.length c] w fun e w' => e = .returned (.bool true) ∧ Grew w w' := by
  have HR := Lib.hid hR
  have hne : (8 : Int) ≠ 0 := by decide
  have HNE := Lib.hid hne
  have HO := Lib.hid hops
  clear hR hne hops
  go_enter Try.func8, Try.ntmps8
  go_wp2_with fail
  refine (awake_any w).mono ?_
  rintro e w1 ⟨rfl, g1⟩
  go_wp2_with fail
  refine (newReader_any _ _).mono ?_
  rintro e w2 ⟨g, rfl, hg, g2, hr⟩
  go_wp2_with fail
  refine (rtext_any g s 0 (-1) w2 hr (by omega) (by decide) (by decide)).mono ?_
  rintro e w3 ⟨rfl, t3, hr3⟩
  rw [HR.out] at hr3
  go_wp2_with fail
  refine (stop_end g 8 w3 hr3 HNE.out).mono ?_
  rintro e w4 ⟨rfl, g4⟩
  have hg4 : Grew w w4 := ((g1.trans g2).turn t3 (by rintro i rfl; exact Nat.le_trans g1.size hg)).trans g4
  have hr4 : Rd w4 g ⟨#[]⟩ 8 := Blk.grew hr3 g4
  have hgw : w.heap.size ≤ g := Nat.le_trans g1.size hg
  clear g1 g2 t3 g4 hr hr3
  go_wp2_with fail
  go_loopw [39] (fun i wr => ∃ k : Nat, k ≤ l.length ∧ i = .int .i64 k ∧ Rd wr g ⟨#[]⟩ 8 ∧ Grew w wr) (fun i _ => l.length - (intOf i).toNat)
  case atStart => exact ⟨0, by omega, rfl, hr4, hg4⟩
  case round =>
    clear hg4 hr4
    obtain ⟨k, hk, rfl, hr4, hg4⟩ := hrel
    by_cases hlt : k < l.length
    · obtain ⟨b, off, kd, most, rfl, hb, -, hkd, hm0, hm1, c0, c1⟩ := (HO.out.keep (Nat.le_refl _) hg4).at_ hlt
      have hbs : b < wr.heap.size := Nat.lt_of_lt_of_le hb hg4.size
      have hk5 : kd % 5 = 0 ∨ kd % 5 = 1 ∨ kd % 5 = 2 ∨ kd % 5 = 3 ∨ kd % 5 = 4 := by omega
      rcases hk5 with h5 | h5 | h5 | h5 | h5
      · have e0 : ((kd : Int) % 5 == 0) = true := by first | exact beq_iff_eq.2 (by omega) | exact beq_eq_false_iff_ne.2 (by omega)
        have e1 : ((kd : Int) % 5 == 1) = false := by first | exact beq_iff_eq.2 (by omega) | exact beq_eq_false_iff_ne.2 (by omega)
        have e2 : ((kd : Int) % 5 == 2) = false := by first | exact beq_iff_eq.2 (by omega) | exact beq_eq_false_iff_ne.2 (by omega)
        have e3 : ((kd : Int) % 5 == 3) = false := by first | exact beq_iff_eq.2 (by omega) | exact beq_eq_false_iff_ne.2 (by omega)
        have e4 : ((kd : Int) % 5 == 4) = false := by first | exact beq_iff_eq.2 (by omega) | exact beq_eq_false_iff_ne.2 (by omega)
        clear h5
        go_wp2_with fail
        refine (stop_number g 8 _ (Blk.alloc hr4 _) HNE.out).mono ?_
        rintro e w5 ⟨rfl, t5, hr5⟩
        go_wp2_with fail
        refine (stop_end g 8 w5 hr5 HNE.out).mono ?_
        rintro e w6 ⟨rfl, g6⟩
        have hr6 : Rd w6 g ⟨#[]⟩ 8 := Blk.grew hr5 g6
        go_wp2_with fail
        refine (stop_left g 8 w6 hr6).mono ?_
        rintro e w7 ⟨rfl, rfl⟩
        go_wp2_with fail
        refine (rrest_any g _ 8 w6 hr6).mono ?_
        rintro e w7 ⟨rfl, rfl⟩
        go_wp2_with fail
        go_roundw
        case rel => exact ⟨k + 1, by omega, by go_num, hr6, ((hg4.alloc _).turn t5 (by rintro i rfl; exact hgw)).trans g6⟩
        case measure => simp [intOf]; omega
      · have e0 : ((kd : Int) % 5 == 0) = false := by first | exact beq_iff_eq.2 (by omega) | exact beq_eq_false_iff_ne.2 (by omega)
        have e1 : ((kd : Int) % 5 == 1) = true := by first | exact beq_iff_eq.2 (by omega) | exact beq_eq_false_iff_ne.2 (by omega)
        have e2 : ((kd : Int) % 5 == 2) = false := by first | exact beq_iff_eq.2 (by omega) | exact beq_eq_false_iff_ne.2 (by omega)
        have e3 : ((kd : Int) % 5 == 3) = false := by first | exact beq_iff_eq.2 (by omega) | exact beq_eq_false_iff_ne.2 (by omega)
        have e4 : ((kd : Int) % 5 == 4) = false := by first | exact beq_iff_eq.2 (by omega) | exact beq_eq_false_iff_ne.2 (by omega)
        clear h5
        go_wp2_with fail
        refine (stop_int g 8 _ (Blk.alloc hr4 _) HNE.out).mono ?_
        rintro e w5 ⟨rfl, t5, hr5⟩
        go_wp2_with fail
        refine (stop_end g 8 w5 hr5 HNE.out).mono ?_
        rintro e w6 ⟨rfl, g6⟩
        have hr6 : Rd w6 g ⟨#[]⟩ 8 := Blk.grew hr5 g6
        go_wp2_with fail
        refine (stop_left g 8 w6 hr6).mono ?_
        rintro e w7 ⟨rfl, rfl⟩
        go_wp2_with fail
        refine (rrest_any g _ 8 w6 hr6).mono ?_
        rintro e w7 ⟨rfl, rfl⟩
        go_wp2_with fail
        go_roundw
        case rel => exact ⟨k + 1, by omega, by go_num, hr6, ((hg4.alloc _).turn t5 (by rintro i rfl; exact hgw)).trans g6⟩
        case measure => simp [intOf]; omega
      · have e0 : ((kd : Int) % 5 == 0) = false := by first | exact beq_iff_eq.2 (by omega) | exact beq_eq_false_iff_ne.2 (by omega)
        have e1 : ((kd : Int) % 5 == 1) = false := by first | exact beq_iff_eq.2 (by omega) | exact beq_eq_false_iff_ne.2 (by omega)
        have e2 : ((kd : Int) % 5 == 2) = true := by first | exact beq_iff_eq.2 (by omega) | exact beq_eq_false_iff_ne.2 (by omega)
        have e3 : ((kd : Int) % 5 == 3) = false := by first | exact beq_iff_eq.2 (by omega) | exact beq_eq_false_iff_ne.2 (by omega)
        have e4 : ((kd : Int) % 5 == 4) = false := by first | exact beq_iff_eq.2 (by omega) | exact beq_eq_false_iff_ne.2 (by omega)
        clear h5
        go_wp2_with fail
        refine (stop_bool g 8 _ (Blk.alloc hr4 _) HNE.out).mono ?_
        rintro e w5 ⟨rfl, t5, hr5⟩
        go_wp2_with fail
        refine (stop_end g 8 w5 hr5 HNE.out).mono ?_
        rintro e w6 ⟨rfl, g6⟩
        have hr6 : Rd w6 g ⟨#[]⟩ 8 := Blk.grew hr5 g6
        go_wp2_with fail
        refine (stop_left g 8 w6 hr6).mono ?_
        rintro e w7 ⟨rfl, rfl⟩
        go_wp2_with fail
        refine (rrest_any g _ 8 w6 hr6).mono ?_
        rintro e w7 ⟨rfl, rfl⟩
        go_wp2_with fail
        go_roundw
        case rel => exact ⟨k + 1, by omega, by go_num, hr6, ((hg4.alloc _).turn t5 (by rintro i rfl; exact hgw)).trans g6⟩
        case measure => simp [intOf]; omega
      · have e0 : ((kd : Int) % 5 == 0) = false := by first | exact beq_iff_eq.2 (by omega) | exact beq_eq_false_iff_ne.2 (by omega)
        have e1 : ((kd : Int) % 5 == 1) = false := by first | exact beq_iff_eq.2 (by omega) | exact beq_eq_false_iff_ne.2 (by omega)
        have e2 : ((kd : Int) % 5 == 2) = false := by first | exact beq_iff_eq.2 (by omega) | exact beq_eq_false_iff_ne.2 (by omega)
        have e3 : ((kd : Int) % 5 == 3) = true := by first | exact beq_iff_eq.2 (by omega) | exact beq_eq_false_iff_ne.2 (by omega)
        have e4 : ((kd : Int) % 5 == 4) = false := by first | exact beq_iff_eq.2 (by omega) | exact beq_eq_false_iff_ne.2 (by omega)
        clear h5
        go_wp2_with fail
        refine (stop_text g 8 _ (Blk.alloc hr4 _) HNE.out most hm0 hm1).mono ?_
        rintro e w5 ⟨rfl, t5, hr5⟩
        go_wp2_with fail
        refine (stop_end g 8 w5 hr5 HNE.out).mono ?_
        rintro e w6 ⟨rfl, g6⟩
        have hr6 : Rd w6 g ⟨#[]⟩ 8 := Blk.grew hr5 g6
        go_wp2_with fail
        refine (stop_left g 8 w6 hr6).mono ?_
        rintro e w7 ⟨rfl, rfl⟩
        go_wp2_with fail
        refine (rrest_any g _ 8 w6 hr6).mono ?_
        rintro e w7 ⟨rfl, rfl⟩
        go_wp2_with fail
        go_roundw
        case rel => exact ⟨k + 1, by omega, by go_num, hr6, ((hg4.alloc _).turn t5 (by rintro i rfl; exact hgw)).trans g6⟩
        case measure => simp [intOf]; omega
      · have e0 : ((kd : Int) % 5 == 0) = false := by first | exact beq_iff_eq.2 (by omega) | exact beq_eq_false_iff_ne.2 (by omega)
        have e1 : ((kd : Int) % 5 == 1) = false := by first | exact beq_iff_eq.2 (by omega) | exact beq_eq_false_iff_ne.2 (by omega)
        have e2 : ((kd : Int) % 5 == 2) = false := by first | exact beq_iff_eq.2 (by omega) | exact beq_eq_false_iff_ne.2 (by omega)
        have e3 : ((kd : Int) % 5 == 3) = false := by first | exact beq_iff_eq.2 (by omega) | exact beq_eq_false_iff_ne.2 (by omega)
        have e4 : ((kd : Int) % 5 == 4) = true := by first | exact beq_iff_eq.2 (by omega) | exact beq_eq_false_iff_ne.2 (by omega)
        clear h5
        go_wp2_with fail
        refine (stop_count g 8 _ (Blk.alloc hr4 _) HNE.out most hm0 hm1).mono ?_
        rintro e w5 ⟨rfl, t5, hr5⟩
        go_wp2_with fail
        refine (stop_end g 8 w5 hr5 HNE.out).mono ?_
        rintro e w6 ⟨rfl, g6⟩
        have hr6 : Rd w6 g ⟨#[]⟩ 8 := Blk.grew hr5 g6
        go_wp2_with fail
        refine (stop_left g 8 w6 hr6).mono ?_
        rintro e w7 ⟨rfl, rfl⟩
        go_wp2_with fail
        refine (rrest_any g _ 8 w6 hr6).mono ?_
        rintro e w7 ⟨rfl, rfl⟩
        go_wp2_with fail
        go_roundw
        case rel => exact ⟨k + 1, by omega, by go_num, hr6, ((hg4.alloc _).turn t5 (by rintro i rfl; exact hgw)).trans g6⟩
        case measure => simp [intOf]; omega
    · go_wp2_with fail
      go_ret
      exact ⟨rfl, hg4⟩
set_option maxRecDepth 100000 in
set_option maxHeartbeats 8000000 in
theorem wireStops_11 (s : ByteArray) (A : Option Addr) (c : Nat) (l : List (Nat × Int)) (w : World) (hs : s.size ≤ 300) (hl : l.length ≤ 30)
    (hops : OpsAt w w.heap.size A l) (hR : RTxt s 0 (-1) = (⟨#[]⟩, ⟨#[]⟩, 11)) :
    Calls Try.prog 8 #[.string s, .slice A l.length c] w fun e w' => e = .returned (.bool true) ∧ Grew w w' := by
  have HR := Lib.hid hR
  have hne : (11 : Int) ≠ 0 := by decide
  have HNE := Lib.hid hne
  have HO := Lib.hid hops
  clear hR hne hops
  go_enter Try.func8, Try.ntmps8
  go_wp2_with fail
  refine (awake_any w).mono ?_
  rintro e w1 ⟨rfl, g1⟩
  go_wp2_with fail
  refine (newReader_any _ _).mono ?_
  rintro e w2 ⟨g, rfl, hg, g2, hr⟩
  go_wp2_with fail
  refine (rtext_any g s 0 (-1) w2 hr (by omega) (by decide) (by decide)).mono ?_
  rintro e w3 ⟨rfl, t3, hr3⟩
  rw [HR.out] at hr3
  go_wp2_with fail
  refine (stop_end g 11 w3 hr3 HNE.out).mono ?_
  rintro e w4 ⟨rfl, g4⟩
  have hg4 : Grew w w4 := ((g1.trans g2).turn t3 (by rintro i rfl; exact Nat.le_trans g1.size hg)).trans g4
  have hr4 : Rd w4 g ⟨#[]⟩ 11 := Blk.grew hr3 g4
  have hgw : w.heap.size ≤ g := Nat.le_trans g1.size hg
  clear g1 g2 t3 g4 hr hr3
  go_wp2_with fail
  go_loopw [39] (fun i wr => ∃ k : Nat, k ≤ l.length ∧ i = .int .i64 k ∧ Rd wr g ⟨#[]⟩ 11 ∧ Grew w wr) (fun i _ => l.length - (intOf i).toNat)
  case atStart => exact ⟨0, by omega, rfl, hr4, hg4⟩
  case round =>
    clear hg4 hr4
    obtain ⟨k, hk, rfl, hr4, hg4⟩ := hrel
    by_cases hlt : k < l.length
    · obtain ⟨b, off, kd, most, rfl, hb, -, hkd, hm0, hm1, c0, c1⟩ := (HO.out.keep (Nat.le_refl _) hg4).at_ hlt
      have hbs : b < wr.heap.size := Nat.lt_of_lt_of_le hb hg4.size
      have hk5 : kd % 5 = 0 ∨ kd % 5 = 1 ∨ kd % 5 = 2 ∨ kd % 5 = 3 ∨ kd % 5 = 4 := by omega
      rcases hk5 with h5 | h5 | h5 | h5 | h5
      · have e0 : ((kd : Int) % 5 == 0) = true := by first | exact beq_iff_eq.2 (by omega) | exact beq_eq_false_iff_ne.2 (by omega)
        have e1 : ((kd : Int) % 5 == 1) = false := by first | exact beq_iff_eq.2 (by omega) | exact beq_eq_false_iff_ne.2 (by omega)
        have e2 : ((kd : Int) % 5 == 2) = false := by first | exact beq_iff_eq.2 (by omega) | exact beq_eq_false_iff_ne.2 (by omega)
        have e3 : ((kd : Int) % 5 == 3) = false := by first | exact beq_iff_eq.2 (by omega) | exact beq_eq_false_iff_ne.2 (by omega)
        have e4 : ((kd : Int) % 5 == 4) = false := by first | exact beq_iff_eq.2 (by omega) | exact beq_eq_false_iff_ne.2 (by omega)
        clear h5
        go_wp2_with fail
        refine (stop_number g 11 _ (Blk.alloc hr4 _) HNE.out).mono ?_
        rintro e w5 ⟨rfl, t5, hr5⟩
        go_wp2_with fail
        refine (stop_end g 11 w5 hr5 HNE.out).mono ?_
        rintro e w6 ⟨rfl, g6⟩
        have hr6 : Rd w6 g ⟨#[]⟩ 11 := Blk.grew hr5 g6
        go_wp2_with fail
        refine (stop_left g 11 w6 hr6).mono ?_
        rintro e w7 ⟨rfl, rfl⟩
        go_wp2_with fail
        refine (rrest_any g _ 11 w6 hr6).mono ?_
        rintro e w7 ⟨rfl, rfl⟩
        go_wp2_with fail
        go_roundw
        case rel => exact ⟨k + 1, by omega, by go_num, hr6, ((hg4.alloc _).turn t5 (by rintro i rfl; exact hgw)).trans g6⟩
        case measure => simp [intOf]; omega
      · have e0 : ((kd : Int) % 5 == 0) = false := by first | exact beq_iff_eq.2 (by omega) | exact beq_eq_false_iff_ne.2 (by omega)
        have e1 : ((kd : Int) % 5 == 1) = true := by first | exact beq_iff_eq.2 (by omega) | exact beq_eq_false_iff_ne.2 (by omega)
        have e2 : ((kd : Int) % 5 == 2) = false := by first | exact beq_iff_eq.2 (by omega) | exact beq_eq_false_iff_ne.2 (by omega)
        have e3 : ((kd : Int) % 5 == 3) = false := by first | exact beq_iff_eq.2 (by omega) | exact beq_eq_false_iff_ne.2 (by omega)
        have e4 : ((kd : Int) % 5 == 4) = false := by first | exact beq_iff_eq.2 (by omega) | exact beq_eq_false_iff_ne.2 (by omega)
        clear h5
        go_wp2_with fail
        refine (stop_int g 11 _ (Blk.alloc hr4 _) HNE.out).mono ?_
        rintro e w5 ⟨rfl, t5, hr5⟩
        go_wp2_with fail
        refine (stop_end g 11 w5 hr5 HNE.out).mono ?_
        rintro e w6 ⟨rfl, g6⟩
        have hr6 : Rd w6 g ⟨#[]⟩ 11 := Blk.grew hr5 g6
        go_wp2_with fail
        refine (stop_left g 11 w6 hr6).mono ?_
        rintro e w7 ⟨rfl, rfl⟩
        go_wp2_with fail
        refine (rrest_any g _ 11 w6 hr6).mono ?_
        rintro e w7 ⟨rfl, rfl⟩
        go_wp2_with fail
        go_roundw
        case rel => exact ⟨k + 1, by omega, by go_num, hr6, ((hg4.alloc _).turn t5 (by rintro i rfl; exact hgw)).trans g6⟩
        case measure => simp [intOf]; omega
      · have e0 : ((kd : Int) % 5 == 0) = false := by first | exact beq_iff_eq.2 (by omega) | exact beq_eq_false_iff_ne.2 (by omega)
        have e1 : ((kd : Int) % 5 == 1) = false := by first | exact beq_iff_eq.2 (by omega) | exact beq_eq_false_iff_ne.2 (by omega)
        have e2 : ((kd : Int) % 5 == 2) = true := by first | exact beq_iff_eq.2 (by omega) | exact beq_eq_false_iff_ne.2 (by omega)
        have e3 : ((kd : Int) % 5 == 3) = false := by first | exact beq_iff_eq.2 (by omega) | exact beq_eq_false_iff_ne.2 (by omega)
        have e4 : ((kd : Int) % 5 == 4) = false := by first | exact beq_iff_eq.2 (by omega) | exact beq_eq_false_iff_ne.2 (by omega)
        clear h5
        go_wp2_with fail
        refine (stop_bool g 11 _ (Blk.alloc hr4 _) HNE.out).mono ?_
        rintro e w5 ⟨rfl, t5, hr5⟩
        go_wp2_with fail
        refine (stop_end g 11 w5 hr5 HNE.out).mono ?_
        rintro e w6 ⟨rfl, g6⟩
        have hr6 : Rd w6 g ⟨#[]⟩ 11 := Blk.grew hr5 g6
        go_wp2_with fail
        refine (stop_left g 11 w6 hr6).mono ?_
        rintro e w7 ⟨rfl, rfl⟩
        go_wp2_with fail
        refine (rrest_any g _ 11 w6 hr6).mono ?_
        rintro e w7 ⟨rfl, rfl⟩
        go_wp2_with fail
        go_roundw
        case rel => exact ⟨k + 1, by omega, by go_num, hr6, ((hg4.alloc _).turn t5 (by rintro i rfl; exact hgw)).trans g6⟩
        case measure => simp [intOf]; omega
      · have e0 : ((kd : Int) % 5 == 0) = false := by first | exact beq_iff_eq.2 (by omega) | exact beq_eq_false_iff_ne.2 (by omega)
        have e1 : ((kd : Int) % 5 == 1) = false := by first | exact beq_iff_eq.2 (by omega) | exact beq_eq_false_iff_ne.2 (by omega)
        have e2 : ((kd : Int) % 5 == 2) = false := by first | exact beq_iff_eq.2 (by omega) | exact beq_eq_false_iff_ne.2 (by omega)
        have e3 : ((kd : Int) % 5 == 3) = true := by first | exact beq_iff_eq.2 (by omega) | exact beq_eq_false_iff_ne.2 (by omega)
        have e4 : ((kd : Int) % 5 == 4) = false := by first | exact beq_iff_eq.2 (by omega) | exact beq_eq_false_iff_ne.2 (by omega)
        clear h5
        go_wp2_with fail
        refine (stop_text g 11 _ (Blk.alloc hr4 _) HNE.out most hm0 hm1).mono ?_
        rintro e w5 ⟨rfl, t5, hr5⟩
        go_wp2_with fail
        refine (stop_end g 11 w5 hr5 HNE.out).mono ?_
        rintro e w6 ⟨rfl, g6⟩
        have hr6 : Rd w6 g ⟨#[]⟩ 11 := Blk.grew hr5 g6
        go_wp2_with fail
        refine (stop_left g 11 w6 hr6).mono ?_
        rintro e w7 ⟨rfl, rfl⟩
        go_wp2_with fail
        refine (rrest_any g _ 11 w6 hr6).mono ?_
        rintro e w7 ⟨rfl, rfl⟩
        go_wp2_with fail
        go_roundw
        case rel => exact ⟨k + 1, by omega, by go_num, hr6, ((hg4.alloc _).turn t5 (by rintro i rfl; exact hgw)).trans g6⟩
        case measure => simp [intOf]; omega
      · have e0 : ((kd : Int) % 5 == 0) = false := by first | exact beq_iff_eq.2 (by omega) | exact beq_eq_false_iff_ne.2 (by omega)
        have e1 : ((kd : Int) % 5 == 1) = false := by first | exact beq_iff_eq.2 (by omega) | exact beq_eq_false_iff_ne.2 (by omega)
        have e2 : ((kd : Int) % 5 == 2) = false := by first | exact beq_iff_eq.2 (by omega) | exact beq_eq_false_iff_ne.2 (by omega)
        have e3 : ((kd : Int) % 5 == 3) = false := by first | exact beq_iff_eq.2 (by omega) | exact beq_eq_false_iff_ne.2 (by omega)
        have e4 : ((kd : Int) % 5 == 4) = true := by first | exact beq_iff_eq.2 (by omega) | exact beq_eq_false_iff_ne.2 (by omega)
        clear h5
        go_wp2_with fail
        refine (stop_count g 11 _ (Blk.alloc hr4 _) HNE.out most hm0 hm1).mono ?_
        rintro e w5 ⟨rfl, t5, hr5⟩
        go_wp2_with fail
        refine (stop_end g 11 w5 hr5 HNE.out).mono ?_
        rintro e w6 ⟨rfl, g6⟩
        have hr6 : Rd w6 g ⟨#[]⟩ 11 := Blk.grew hr5 g6
        go_wp2_with fail
        refine (stop_left g 11 w6 hr6).mono ?_
        rintro e w7 ⟨rfl, rfl⟩
        go_wp2_with fail
        refine (rrest_any g _ 11 w6 hr6).mono ?_
        rintro e w7 ⟨rfl, rfl⟩
        go_wp2_with fail
        go_roundw
        case rel => exact ⟨k + 1, by omega, by go_num, hr6, ((hg4.alloc _).turn t5 (by rintro i rfl; exact hgw)).trans g6⟩
        case measure => simp [intOf]; omega
    · go_wp2_with fail
      go_ret
      exact ⟨rfl, hg4⟩
set_option maxRecDepth 100000 in
set_option maxHeartbeats 2000000 in
theorem wireStops_far (s : ByteArray) (A : Option Addr) (c n : Nat) (w : World) (hs : s.size ≤ 9223372036854775807) (hn : n ≤ 9223372036854775807) (hb : 300 < s.size ∨ 30 < n) :
    Calls Try.prog 8 #[.string s, .slice A n c] w fun e w' => e = .returned (.bool true) ∧ Grew w w' := by
  by_cases h : 300 < s.size
  all_goals
    have h2 : 300 < s.size ∨ 30 < (n : Int) := by omega
    clear hb
    go_enter Try.func8, Try.ntmps8
    go_wp2_with fail
    refine (awake_any w).mono ?_
    rintro e w1 ⟨rfl, g1⟩
    go_wp2_with fail
    refine (awake_any w1).mono ?_
    rintro e w2 ⟨rfl, g2⟩
    go_wp2_with fail
    go_ret
    exact ⟨rfl, g1.trans g2⟩
theorem wireStops_any (s : ByteArray) (A : Option Addr) (c : Nat) (l : List (Nat × Int)) (w : World) (hs : s.size ≤ 9223372036854775807) (hl : l.length ≤ 9223372036854775807) (hops : OpsAt w w.heap.size A l) :
    Calls Try.prog 8 #[.string s, .slice A l.length c] w fun e w' => e = .returned (.bool true) ∧ Grew w w' := by
  by_cases h : 300 < s.size ∨ 30 < l.length
  · exact wireStops_far s A c l.length w hs hl h
  · rcases RTxt_neg s with hR | hR
    · exact wireStops_8 s A c l w (by omega) (by omega) hops hR
    · exact wireStops_11 s A c l w (by omega) (by omega) hops hR
end Go.Proofs.Ytfoklokflooapaa
