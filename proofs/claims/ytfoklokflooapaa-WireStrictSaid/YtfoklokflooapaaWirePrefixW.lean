/- WirePrefix's and WireLimits' walks. -/
import Derived.Test.YtfoklokflooapaaWireJ
import Derived.Test.YtfoklokflooapaaWireP
import Derived.Deep.QuietTactic
import Derived.BigQuiet
import Derived.Lib.Strings
namespace Go.Proofs.Ytfoklokflooapaa
open Go.RowKit
theorem app_empty (n : Nat) (w : World) (hn : n < 18446744073709551616) :
    Calls Try.prog 12 #[.string ⟨#[]⟩, .int .u64 n] w fun e w' => e = .returned (.string ⟨(enc n).toArray⟩) ∧ Grew w w' :=
  app_const ⟨#[]⟩ _ n w hn (by decide) (by apply ByteArray.ext; simp)
theorem pfx (a b m : Nat) (ha : a < 18446744073709551616) (hb : b < 18446744073709551616) (hm : m = (enc a).length ∨ m = (enc b).length) (hma : m ≤ (enc a).length) (hmb : m ≤ (enc b).length) :
    ((((⟨(enc a).toArray⟩ : ByteArray).extract 0 m).toList == ((⟨(enc b).toArray⟩ : ByteArray).extract 0 m).toList) == ((a : Int) == (b : Int))) = true := by
  have h := enc_take a b m ha hb hm hma hmb
  rw [Lib.extract_toList, Lib.extract_toList]
  simp only [List.drop_zero, Nat.sub_zero]
  by_cases e : a = b
  · subst e; simp
  · have h1 : ((enc a).take m == (enc b).take m) = false := beq_eq_false_iff_ne.2 (fun hh => e (h.1 hh))
    have h2 : ((a : Int) == (b : Int)) = false := beq_eq_false_iff_ne.2 (by omega)
    rw [h1, h2]; rfl
set_option maxRecDepth 100000 in
set_option maxHeartbeats 2000000 in
theorem wirePrefix_lt (a b : Nat) (w : World) (ha : a < 18446744073709551616) (hb : b < 18446744073709551616) (hab : a < b) :
    Calls Try.prog 4 #[.int .u64 a, .int .u64 b] w fun e w' => e = .returned (.bool true) ∧ Grew w w' := by
  have la := enc_len a
  have lb := enc_len b
  have pa := enc_pos a
  have pb := enc_pos b
  have hm := enc_mono a b
  have hm2 := enc_mono b a
  have hfin : (enc a).length ≤ (enc b).length → _ := fun h => pfx a b (enc a).length ha hb (.inl rfl) (Nat.le_refl _) h
  have hfin2 : (enc b).length ≤ (enc a).length → _ := fun h => pfx a b (enc b).length ha hb (.inr rfl) h (Nat.le_refl _)
  have HF := Lib.hid hfin
  have HF2 := Lib.hid hfin2
  clear hfin hfin2
  first | (have hx := hm (by omega); clear hm hm2) | (have hx := hm2 (by omega); clear hm hm2)
  go_enter Try.func4, Try.ntmps4
  go_wp2_with fail
  refine (awake_any w).mono ?_
  rintro e w1 ⟨rfl, g1⟩
  go_wp2_with fail
  refine (app_empty _ w1 ha).mono ?_
  rintro e w2 ⟨rfl, g2⟩
  go_wp2_with fail
  refine (app_empty _ w2 hb).mono ?_
  rintro e w3 ⟨rfl, g3⟩
  go_wp2_with fail
  all_goals
    go_quiet (fail)
    go_wp2_with fail
    go_ret
    have g := g1.trans (g2.trans g3)
    first
      | exact ⟨ret_bool (HF.out (by omega)), by (repeat' first | (with_reducible exact Grew.refl _) | (with_reducible assumption) | (with_reducible refine Grew.alloc ?_ _) | (with_reducible refine Grew.drew ?_) | (with_reducible refine Grew.drewN ?_ _) | (with_reducible refine Grew.setCell ?_ (by first | (simp; done) | (simp; omega) | omega) _) | (with_reducible apply Grew.trans; rotate_left; with_reducible assumption) | (with_reducible apply Grew.turn; rotate_left; with_reducible assumption; (intro i hi; first | omega | (simp at hi; omega))) | fail)⟩
      | exact ⟨ret_bool (HF2.out (by omega)), by (repeat' first | (with_reducible exact Grew.refl _) | (with_reducible assumption) | (with_reducible refine Grew.alloc ?_ _) | (with_reducible refine Grew.drew ?_) | (with_reducible refine Grew.drewN ?_ _) | (with_reducible refine Grew.setCell ?_ (by first | (simp; done) | (simp; omega) | omega) _) | (with_reducible apply Grew.trans; rotate_left; with_reducible assumption) | (with_reducible apply Grew.turn; rotate_left; with_reducible assumption; (intro i hi; first | omega | (simp at hi; omega))) | fail)⟩
      | exact ⟨rfl, by (repeat' first | (with_reducible exact Grew.refl _) | (with_reducible assumption) | (with_reducible refine Grew.alloc ?_ _) | (with_reducible refine Grew.drew ?_) | (with_reducible refine Grew.drewN ?_ _) | (with_reducible refine Grew.setCell ?_ (by first | (simp; done) | (simp; omega) | omega) _) | (with_reducible apply Grew.trans; rotate_left; with_reducible assumption) | (with_reducible apply Grew.turn; rotate_left; with_reducible assumption; (intro i hi; first | omega | (simp at hi; omega))) | fail)⟩
set_option maxRecDepth 100000 in
set_option maxHeartbeats 2000000 in
theorem wirePrefix_eq (a b : Nat) (w : World) (ha : a < 18446744073709551616) (hb : b < 18446744073709551616) (hab : a = b) :
    Calls Try.prog 4 #[.int .u64 a, .int .u64 b] w fun e w' => e = .returned (.bool true) ∧ Grew w w' := by
  have la := enc_len a
  have lb := enc_len b
  have pa := enc_pos a
  have pb := enc_pos b
  have hm := enc_mono a b
  have hm2 := enc_mono b a
  have hfin : (enc a).length ≤ (enc b).length → _ := fun h => pfx a b (enc a).length ha hb (.inl rfl) (Nat.le_refl _) h
  have hfin2 : (enc b).length ≤ (enc a).length → _ := fun h => pfx a b (enc b).length ha hb (.inr rfl) h (Nat.le_refl _)
  have HF := Lib.hid hfin
  have HF2 := Lib.hid hfin2
  clear hfin hfin2
  first | (have hx := hm (by omega); clear hm hm2) | (have hx := hm2 (by omega); clear hm hm2)
  subst hab
  go_enter Try.func4, Try.ntmps4
  go_wp2_with fail
  refine (awake_any w).mono ?_
  rintro e w1 ⟨rfl, g1⟩
  go_wp2_with fail
  refine (app_empty _ w1 ha).mono ?_
  rintro e w2 ⟨rfl, g2⟩
  go_wp2_with fail
  refine (app_empty _ w2 hb).mono ?_
  rintro e w3 ⟨rfl, g3⟩
  go_wp2_with fail
  all_goals
    go_quiet (fail)
    go_wp2_with fail
    go_ret
    have g := g1.trans (g2.trans g3)
    first
      | exact ⟨ret_bool (HF.out (by omega)), by (repeat' first | (with_reducible exact Grew.refl _) | (with_reducible assumption) | (with_reducible refine Grew.alloc ?_ _) | (with_reducible refine Grew.drew ?_) | (with_reducible refine Grew.drewN ?_ _) | (with_reducible refine Grew.setCell ?_ (by first | (simp; done) | (simp; omega) | omega) _) | (with_reducible apply Grew.trans; rotate_left; with_reducible assumption) | (with_reducible apply Grew.turn; rotate_left; with_reducible assumption; (intro i hi; first | omega | (simp at hi; omega))) | fail)⟩
      | exact ⟨ret_bool (HF2.out (by omega)), by (repeat' first | (with_reducible exact Grew.refl _) | (with_reducible assumption) | (with_reducible refine Grew.alloc ?_ _) | (with_reducible refine Grew.drew ?_) | (with_reducible refine Grew.drewN ?_ _) | (with_reducible refine Grew.setCell ?_ (by first | (simp; done) | (simp; omega) | omega) _) | (with_reducible apply Grew.trans; rotate_left; with_reducible assumption) | (with_reducible apply Grew.turn; rotate_left; with_reducible assumption; (intro i hi; first | omega | (simp at hi; omega))) | fail)⟩
      | exact ⟨rfl, by (repeat' first | (with_reducible exact Grew.refl _) | (with_reducible assumption) | (with_reducible refine Grew.alloc ?_ _) | (with_reducible refine Grew.drew ?_) | (with_reducible refine Grew.drewN ?_ _) | (with_reducible refine Grew.setCell ?_ (by first | (simp; done) | (simp; omega) | omega) _) | (with_reducible apply Grew.trans; rotate_left; with_reducible assumption) | (with_reducible apply Grew.turn; rotate_left; with_reducible assumption; (intro i hi; first | omega | (simp at hi; omega))) | fail)⟩
set_option maxRecDepth 100000 in
set_option maxHeartbeats 2000000 in
theorem wirePrefix_gt (a b : Nat) (w : World) (ha : a < 18446744073709551616) (hb : b < 18446744073709551616) (hab : b < a) :
    Calls Try.prog 4 #[.int .u64 a, .int .u64 b] w fun e w' => e = .returned (.bool true) ∧ Grew w w' := by
  have la := enc_len a
  have lb := enc_len b
  have pa := enc_pos a
  have pb := enc_pos b
  have hm := enc_mono a b
  have hm2 := enc_mono b a
  have hfin : (enc a).length ≤ (enc b).length → _ := fun h => pfx a b (enc a).length ha hb (.inl rfl) (Nat.le_refl _) h
  have hfin2 : (enc b).length ≤ (enc a).length → _ := fun h => pfx a b (enc b).length ha hb (.inr rfl) h (Nat.le_refl _)
  have HF := Lib.hid hfin
  have HF2 := Lib.hid hfin2
  clear hfin hfin2
  first | (have hx := hm (by omega); clear hm hm2) | (have hx := hm2 (by omega); clear hm hm2)
  go_enter Try.func4, Try.ntmps4
  go_wp2_with fail
  refine (awake_any w).mono ?_
  rintro e w1 ⟨rfl, g1⟩
  go_wp2_with fail
  refine (app_empty _ w1 ha).mono ?_
  rintro e w2 ⟨rfl, g2⟩
  go_wp2_with fail
  refine (app_empty _ w2 hb).mono ?_
  rintro e w3 ⟨rfl, g3⟩
  go_wp2_with fail
  all_goals
    go_quiet (fail)
    go_wp2_with fail
    go_ret
    have g := g1.trans (g2.trans g3)
    first
      | exact ⟨ret_bool (HF.out (by omega)), by (repeat' first | (with_reducible exact Grew.refl _) | (with_reducible assumption) | (with_reducible refine Grew.alloc ?_ _) | (with_reducible refine Grew.drew ?_) | (with_reducible refine Grew.drewN ?_ _) | (with_reducible refine Grew.setCell ?_ (by first | (simp; done) | (simp; omega) | omega) _) | (with_reducible apply Grew.trans; rotate_left; with_reducible assumption) | (with_reducible apply Grew.turn; rotate_left; with_reducible assumption; (intro i hi; first | omega | (simp at hi; omega))) | fail)⟩
      | exact ⟨ret_bool (HF2.out (by omega)), by (repeat' first | (with_reducible exact Grew.refl _) | (with_reducible assumption) | (with_reducible refine Grew.alloc ?_ _) | (with_reducible refine Grew.drew ?_) | (with_reducible refine Grew.drewN ?_ _) | (with_reducible refine Grew.setCell ?_ (by first | (simp; done) | (simp; omega) | omega) _) | (with_reducible apply Grew.trans; rotate_left; with_reducible assumption) | (with_reducible apply Grew.turn; rotate_left; with_reducible assumption; (intro i hi; first | omega | (simp at hi; omega))) | fail)⟩
      | exact ⟨rfl, by (repeat' first | (with_reducible exact Grew.refl _) | (with_reducible assumption) | (with_reducible refine Grew.alloc ?_ _) | (with_reducible refine Grew.drew ?_) | (with_reducible refine Grew.drewN ?_ _) | (with_reducible refine Grew.setCell ?_ (by first | (simp; done) | (simp; omega) | omega) _) | (with_reducible apply Grew.trans; rotate_left; with_reducible assumption) | (with_reducible apply Grew.turn; rotate_left; with_reducible assumption; (intro i hi; first | omega | (simp at hi; omega))) | fail)⟩
theorem wirePrefix_any (a b : Nat) (w : World) (ha : a < 18446744073709551616) (hb : b < 18446744073709551616) :
    Calls Try.prog 4 #[.int .u64 a, .int .u64 b] w fun e w' => e = .returned (.bool true) ∧ Grew w w' := by
  rcases Nat.lt_trichotomy a b with h | h | h
  · exact wirePrefix_lt a b w ha hb h
  · exact wirePrefix_eq a b w ha hb h
  · exact wirePrefix_gt a b w ha hb h
theorem RNum_enc (n : Nat) (h : n < 18446744073709551616) : RNum ⟨(enc n).toArray⟩ 0 = (n, ⟨#[]⟩, 0) := by
  have hd := dec_enc n [] h
  rw [List.append_nil] at hd
  have hp := enc_pos n
  have hd' : dec (⟨(enc n).toArray⟩ : ByteArray).data.toList = (n, ((enc n).length - 1) + 1) := by rw [show (enc n).length - 1 + 1 = (enc n).length from by omega]; exact hd
  rw [RNum_some _ n _ hd', show (enc n).length - 1 + 1 = (enc n).length from by omega]
  congr 2
  apply ByteArray.ext
  simp
theorem RCnt_enc_hi (n : Nat) (most : Int) (h : n < 18446744073709551616) (hm : most < 0 ∨ most < (n : Int)) : RCnt ⟨(enc n).toArray⟩ 0 most = (0, ⟨#[]⟩, 8) := by
  rw [RCnt, RNum_enc n h, if_neg (by simp), if_pos hm]
theorem RCnt_enc_lo (n : Nat) (most : Int) (h : n < 18446744073709551616) (hm : ¬ (most < 0 ∨ most < (n : Int))) : RCnt ⟨(enc n).toArray⟩ 0 most = (n, ⟨#[]⟩, 0) := by
  rw [RCnt, RNum_enc n h, if_neg (by simp), if_neg hm]
theorem RTxt_enc_hi (n : Nat) (most : Int) (h : n < 18446744073709551616) (hm : most < 0 ∨ most < (n : Int)) : RTxt ⟨(enc n).toArray⟩ 0 most = (⟨#[]⟩, ⟨#[]⟩, 8) := by
  rw [RTxt, RCnt_enc_hi n most h hm, if_pos (by simp)]
theorem RTxt_enc_pos (n : Nat) (most : Int) (h : n < 18446744073709551616) (hm : ¬ (most < 0 ∨ most < (n : Int))) (hp : 0 < n) : RTxt ⟨(enc n).toArray⟩ 0 most = (⟨#[]⟩, ⟨#[]⟩, 11) := by
  rw [RTxt, RCnt_enc_lo n most h hm, if_neg (by simp), if_pos (by exact hp)]
theorem RTxt_enc_0 (most : Int) (hm : ¬ (most < 0 ∨ most < ((0 : Nat) : Int))) : RTxt ⟨(enc 0).toArray⟩ 0 most = (⟨#[]⟩, ⟨#[]⟩, 0) := by
  rw [RTxt, RCnt_enc_lo 0 most (by decide) hm, if_neg (by simp), if_neg (by simp)]
  rfl
end Go.Proofs.Ytfoklokflooapaa
