/- Chapter 3: Full; calm devices; awake. -/
import Derived.Test.YtklojcgbokmkhaaDevL
namespace Go.Proofs.Ytklojcgbokmkhaa
set_option linter.unusedVariables false
set_option linter.unusedSimpArgs false
set_option linter.unusedSectionVars false
open Go.RowKit
open Go.Maps (Keyed)
attribute [local go_sem ↓] Go.wp_at_zero Go.wp_at_succ
theorem ret_str {a b : ByteArray} (h : a = b) : Ending.returned (.string a) = .returned (.string b) := by rw [h]
theorem zeros_size (n : Nat) : (zeros n).size = n := by simp [zeros, ByteArray.size]
def padS (n : Nat) (s : ByteArray) : ByteArray := s ++ zeros (n - s.size)
theorem padS_full (n : Nat) (s : ByteArray) (h : n ≤ s.size) : padS n s = s := by
  unfold padS
  rw [show n - s.size = 0 by omega]
  show s ++ ⟨#[]⟩ = s
  exact ByteArray.append_empty
theorem padS_step (n : Nat) (s : ByteArray) (h : s.size < n) : padS n s = padS n (s ++ ⟨#[0]⟩) := by
  unfold padS
  have hs : (s ++ (⟨#[0]⟩ : ByteArray)).size = s.size + 1 := by simp [ByteArray.size_append]; rfl
  rw [hs, show n - s.size = (n - (s.size + 1)) + 1 by omega]
  rw [ByteArray.append_assoc]
  congr 1
theorem padS_size (n : Nat) (s : ByteArray) (h : s.size ≤ n) : (padS n s).size = n := by unfold padS; rw [ByteArray.size_append, zeros_size]; omega
set_option maxRecDepth 100000 in
set_option maxHeartbeats 1000000 in
theorem padded_any (s : ByteArray) (n : Nat) (w : World) (hn : n ≤ 2000) (hs : s.size ≤ 1000000) :
    Calls Try.prog 28 #[.string s, .int .i64 (n : Int)] w fun e w' => e = .returned (.string (padS n s)) ∧ w = w' := by
  go_enter Try.func28, Try.ntmps28
  go_wp2_with fail
  go_loopg [0] (n + 1 - s.size) (fun gk v wr => w = wr ∧ ∃ u : ByteArray, v = .string u ∧ gk = n + 1 - u.size ∧ u.size ≤ 1000000 ∧ padS n u = padS n s)
  case atStart => exact ⟨rfl, s, rfl, rfl, hs, rfl⟩
  case round =>
    obtain ⟨rfl, u, rfl, hgk, hu, hp⟩ := hrel
    have HGK := Lib.hid hgk
    have HP := Lib.hid hp
    clear hgk hp
    have hsz : (u ++ (⟨#[0]⟩ : ByteArray)).size = u.size + 1 := by simp [ByteArray.size_append]; rfl
    have HSZ := Lib.hid hsz
    clear hsz
    by_cases hlt : u.size < n
    · have hlti : (u.size : Int) < (n : Int) := by omega
      have HPS := Lib.hid (padS_step n u hlt)
      go_wp2_with fail
      go_roundg (n + 1 - (u.size + 1))
      case measure => rw [HGK.out]; omega
      case rel => exact ⟨rfl, _, rfl, by rw [HSZ.out], by rw [HSZ.out]; omega, by rw [← HPS.out]; exact HP.out⟩
    · have hlti : ¬ (u.size : Int) < (n : Int) := by omega
      have HPF := Lib.hid (padS_full n u (by omega))
      go_wp2_with fail
      go_ret
      exact ⟨ret_str (by rw [← HP.out, HPF.out]), rfl⟩
def fullS (s : ByteArray) : ByteArray := padS 140 (s.extract 0 140)
theorem fullS_size (s : ByteArray) : (fullS s).size = 140 := padS_size _ _ (by rw [ByteArray.size_extract]; omega)
set_option maxRecDepth 100000 in
set_option maxHeartbeats 1000000 in
theorem full_any (s : ByteArray) (w : World) (hs : s.size ≤ 1000000) : Calls Try.prog 15 #[.string s] w fun e w' => e = .returned (.string (fullS s)) ∧ w = w' := by
  have HF := Lib.hid (show fullS s = padS 140 (s.extract 0 140) from rfl)
  by_cases h : s.size ≤ 140
  · have he : s.extract 0 140 = s := by
      apply ByteArray.ext
      rw [ByteArray.data_extract]
      exact Array.extract_eq_self_of_le h
    have HP := Lib.hid (padded_any s 140 w (by omega) hs)
    have HE := Lib.hid he
    clear he
    go_enter Try.func15, Try.ntmps15
    go_wp2_with fail
    refine HP.out.mono ?_
    rintro e w1 ⟨rfl, rfl⟩
    go_wp2_with fail
    go_ret
    exact ⟨ret_str (by rw [HF.out, HE.out]), rfl⟩
  · have hsz : (s.extract 0 140).size = 140 := by rw [ByteArray.size_extract]; omega
    have HP := Lib.hid (padded_any (s.extract 0 140) 140 w (by omega) (by omega))
    have h1 : 140 ≤ s.size := by omega
    clear hsz
    go_enter Try.func15, Try.ntmps15
    go_wp2_with fail
    refine HP.out.mono ?_
    rintro e w1 ⟨rfl, rfl⟩
    go_wp2_with fail
    go_ret
    exact ⟨ret_str (by rw [HF.out]), rfl⟩
theorem write_calm {D : Dev} {s e sec : Int} {data : ByteArray} (h1 : D.failed = false) (h2 : D.fuse = none) (hp : plainW s e = true) (hd : data.size = 140) (ht : thereD D sec = true) (hf : ¬ e < D.fen s) :
    writeD D s e sec data = ({ D with pend := D.pend ++ [⟨s, sec.toNat, data⟩] }, 0) := by
  have ha := admitD_none h1 hf h2
  unfold writeD
  rw [if_neg (by rw [hp]; simp [hd]), if_neg (by rw [ht]; decide), ha]
  rfl
theorem write_fenced {D : Dev} {s e sec : Int} {data : ByteArray} (h1 : D.failed = false) (hp : plainW s e = true) (hd : data.size = 140) (ht : thereD D sec = true) (hf : e < D.fen s) : writeD D s e sec data = (D, 13) := by
  have ha := admitD_fenced h1 hf
  unfold writeD
  rw [if_neg (by rw [hp]; simp [hd]), if_neg (by rw [ht]; decide), ha]
  rfl
theorem sync_calm {D : Dev} {s e : Int} (h1 : D.failed = false) (h2 : D.fuse = none) (hp : plainW s e = true) (hf : ¬ e < D.fen s) : syncD D s e = (finishD D (ofSys s) (fun _ => 140), 0) := by
  have ha := admitD_none h1 hf h2
  unfold syncD
  rw [if_neg (by rw [hp]; simp), ha]
  rfl
def abcdef : ByteArray := ⟨#[97, 98, 99, 100, 101, 102]⟩
def abc : ByteArray := ⟨#[97, 98, 99]⟩
def aw1 : Dev := ⟨[blank, blank], [[], []], [⟨1, 0, fullS abcdef⟩], fun _ => 0, none, false⟩
def aw2 : Dev := ⟨[fullS abc, blank], [[blank], []], [], fun _ => 0, none, false⟩
def aw3 : Dev := ⟨[fullS abc, blank], [[blank], []], [], fun i => if i = 1 then 6 else 0, none, false⟩
theorem aw1_is : writeD (newD 2) 1 5 0 (fullS abcdef) = (aw1, 0) := write_calm rfl rfl (by decide) (fullS_size _) (by decide) (by show ¬ (5 : Int) < 0; decide)
theorem aw2_is : crashD aw1 1 [3] = aw2 := by
  have h1 : cutW ⟨1, 0, fullS abcdef⟩ 3 blank = fullS abc := by kernel_rfl
  have h2 : ¬ blank = fullS abc := by decide +kernel
  unfold crashD finishD runEnd aw1
  simp only [List.foldl_cons, List.foldl_nil]
  have h3 : endStep (ofSys 1) (svN [3]) (aw1, 0) ⟨1, 0, fullS abcdef⟩ = (changeD aw1 0 (cutW ⟨1, 0, fullS abcdef⟩ 3 blank), 1) := by
    unfold endStep
    rw [if_pos (by decide)]
    have e1 : svN [3] (aw1, 0).2 = 3 := by decide
    have e2 : aw1.at 0 = blank := rfl
    rw [e1, e2]
  have h4 : changeD aw1 0 (fullS abc) = { aw2 with pend := [⟨1, 0, fullS abcdef⟩] } := by
    unfold changeD
    rw [if_neg (show ¬ aw1.at 0 = fullS abc from h2)]
    rfl
  rw [h1, h4] at h3
  unfold aw1 at h3
  rw [h3]
  rfl
theorem aw3_is : fenceD aw2 1 5 = aw3 := by
  unfold fenceD
  rw [if_neg (by decide)]
  have h : (fun i : Int => if i = 1 then max (aw2.fen 1) (clipE 5) else aw2.fen i) = fun i => if i = 1 then 6 else 0 := by
    funext i
    by_cases h : i = 1
    · rw [if_pos h, if_pos h]; decide
    · rw [if_neg h, if_neg h]; rfl
  rw [h]
  rfl
end Go.Proofs.Ytklojcgbokmkhaa
