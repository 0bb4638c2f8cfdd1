/- Chapter 7: fill, Padded, Zero. -/
import Derived.Test.YtkiciojipiakoaaLabB
import Derived.Test.YtkiciojipiakoaaWireI
import Derived.Test.YtkiciojipiakoaaWireP
import Derived.OwnWalk
namespace Go.Proofs.Ytkiciojipiakoaa
set_option linter.unusedVariables false
set_option linter.unusedSimpArgs false
set_option linter.unusedSectionVars false
open Go.RowKit
theorem ret_str {a b : ByteArray} (h : a = b) : Ending.returned (.string a) = .returned (.string b) := by rw [h]
def zeros (n : Nat) : ByteArray := ⟨(List.replicate n (0 : UInt8)).toArray⟩
theorem zeros_size (n : Nat) : (zeros n).size = n := by simp [zeros, ByteArray.size]
def padS (n : Nat) (s : ByteArray) : ByteArray := s ++ zeros (n - s.size)
theorem info_u8 : (Try.prog.info? 5).map (fun i => (i.zero, i.size, i.bytes)) = some (some (.int .u8 0), 1, 1) := by kernel_rfl
theorem made_zero (w : World) (n : Nat) (hn : n ≤ 1000000) : (Instr.makeSlice 71 (.int .i64 (n : Int)) (.int .i64 (n : Int))).run Try.prog w = .ok (.slice (some ⟨w.heap.size, 0, none⟩) n n) (w.alloc (.cells (Array.replicate n (Value.int .u8 0)) 5)) := by
  obtain ⟨i, hi, hz0, hz1, hz2⟩ := info_parts info_u8
  have h := run_make (P := Try.prog) w 71 5 i _ Try.underlying71 hi hz0 .i64 .i64 (n : Int) (n : Int) (by omega) (by omega) (by rw [hz2]; omega) (by omega)
  rw [hz1] at h
  simp only [Int.toNat_natCast, Nat.mul_one] at h
  rw [h]
  congr 3
  unfold madeCells
  apply Array.ext
  · simp
  · intro j h1 h2
    simp [Value.cells, Nat.mod_one]
theorem conv_zero (w : World) (n : Nat) : (convert 71 9 (.slice (some ⟨w.heap.size, 0, none⟩) n n)).run Try.prog (w.alloc (.cells (Array.replicate n (Value.int .u8 0)) 5)) = .ok (.string (zeros n)) (w.alloc (.cells (Array.replicate n (Value.int .u8 0)) 5)) :=
  conv_row _ 71 9 5 _ n n (List.replicate n 0) _ 5 Try.underlying71 Try.underlying5 Try.underlying9 (by simp) (heap_alloc_new w _) (fun j hj => by
    simp only [List.length_replicate] at hj
    simp [hj, bcell])
set_option maxRecDepth 100000 in
set_option maxHeartbeats 1000000 in
theorem fill_any (s : ByteArray) (w : World) (hs : s.size ≤ 1024) :
    Calls Try.prog 46 #[.string s] w fun e w' => e = .returned (.string (padS 1024 s)) ∧ Grew w w' := by
  obtain ⟨n, hn⟩ : ∃ n, 1024 - s.size = n := ⟨_, rfl⟩
  have h1 : (1024 : Int) - (s.size : Int) = (n : Int) := by omega
  have HE := Lib.hid (show padS 1024 s = s ++ zeros n from by unfold padS; rw [hn])
  have hmk := made_zero w n (by omega)
  have hcv := conv_zero w n
  have hzs := zeros_size n
  have hn2 : n ≤ 1024 := by omega
  clear hn
  go_enter Try.func46, Try.ntmps46
  go_wp2_with fail
  go_ret
  exact ⟨ret_str (by rw [HE.out]), by (repeat' first | (with_reducible exact Grew.refl _) | (with_reducible assumption) | (with_reducible refine Grew.alloc ?_ _) | (with_reducible refine Grew.drew ?_) | (with_reducible refine Grew.drewN ?_ _) | (with_reducible refine Grew.setRow ?_ (by first | (simp; done) | (simp; omega) | omega) _) | (with_reducible refine Grew.setCell ?_ (by first | (simp; done) | (simp; omega) | omega) _) | ((with_reducible apply Grew.trans); rotate_left; (with_reducible assumption)) | ((with_reducible apply Grew.turn); rotate_left; (with_reducible assumption); (focus (intro i hi; first | omega | (simp at hi; omega)))) | fail)⟩
theorem padS_full (n : Nat) (s : ByteArray) (h : n ≤ s.size) : padS n s = s := by
  unfold padS
  rw [show n - s.size = 0 by omega]
  show s ++ ⟨#[]⟩ = s
  exact ByteArray.append_empty
theorem padS_step (n : Nat) (s : ByteArray) (h : s.size < n) : padS n s = padS n (s ++ ⟨#[0]⟩) := by
  unfold padS
  have hs : (s ++ (⟨#[0]⟩ : ByteArray)).size = s.size + 1 := by simp [ByteArray.size_append]; rfl
  rw [hs, show n - s.size = (n - (s.size + 1)) + 1 by omega]
  rw [ByteArray.append_assoc]
  congr 1
set_option maxRecDepth 100000 in
set_option maxHeartbeats 1000000 in
theorem padded_any (s : ByteArray) (n : Nat) (w : World) (hn : n ≤ 2000) (hs : s.size ≤ 1000000) :
    Calls Try.prog 49 #[.string s, .int .i64 (n : Int)] w fun e w' => e = .returned (.string (padS n s)) ∧ w = w' := by
  go_enter Try.func49, Try.ntmps49
  go_wp2_with fail
  go_loopg [0] (n + 1 - s.size) (fun gk v wr => w = wr ∧ ∃ u : ByteArray, v = .string u ∧ gk = n + 1 - u.size ∧ u.size ≤ 1000000 ∧ padS n u = padS n s)
  case atStart => exact ⟨rfl, s, rfl, rfl, hs, rfl⟩
  case round =>
    obtain ⟨rfl, u, rfl, hgk, hu, hp⟩ := hrel
    have HGK := Lib.hid hgk
    have HP := Lib.hid hp
    clear hgk hp
    have hsz : (u ++ (⟨#[0]⟩ : ByteArray)).size = u.size + 1 := by simp [ByteArray.size_append]; rfl
    have HSZ := Lib.hid hsz
    clear hsz
    by_cases hlt : u.size < n
    · have hlti : (u.size : Int) < (n : Int) := by omega
      have HPS := Lib.hid (padS_step n u hlt)
      go_wp2_with fail
      go_roundg (n + 1 - (u.size + 1))
      case measure => rw [HGK.out]; omega
      case rel => exact ⟨rfl, _, rfl, by rw [HSZ.out], by rw [HSZ.out]; omega, by rw [← HPS.out]; exact HP.out⟩
    · have hlti : ¬ (u.size : Int) < (n : Int) := by omega
      have HPF := Lib.hid (padS_full n u (by omega))
      go_wp2_with fail
      go_ret
      exact ⟨ret_str (by rw [← HP.out, HPF.out]), rfl⟩
def zeroB (s : ByteArray) : Bool := s.data.toList.all (· == 0)
set_option maxRecDepth 100000 in
set_option maxHeartbeats 1000000 in
theorem zero_any (s : ByteArray) (w : World) (hs : s.size ≤ 1000000) :
    Calls Try.prog 55 #[.string s] w fun e w' => e = .returned (.bool (zeroB s)) ∧ w = w' := by
  go_enter Try.func55, Try.ntmps55
  go_wp2_with fail
  go_loopg [3] s.size (fun gk i wr => w = wr ∧ ∃ k : Nat, k ≤ s.size ∧ gk = s.size - k ∧ i = .int .i64 k ∧ ∀ j (hj : j < s.size), j < k → s[j] = 0)
  case atStart => exact ⟨rfl, 0, by omega, by omega, rfl, fun j hj h => by omega⟩
  case round =>
    obtain ⟨rfl, k, hk, hgk, rfl, hall⟩ := hrel
    have HGK := Lib.hid hgk
    have HA := Lib.hid hall
    clear hgk hall
    by_cases hlt : k < s.size
    · by_cases hz : s[k] = 0
      · have hb : ((s[k].toNat : Int) != 0) = false := by rw [hz]; rfl
        have HN := Lib.hid (show ∀ j (hj : j < s.size), j < k + 1 → s[j] = 0 from fun j hj hjk => by
          by_cases hjk' : j = k
          · subst hjk'; exact hz
          · exact HA.out j hj (by omega))
        clear hz
        go_wp2_with fail
        go_roundg (s.size - (k + 1))
        case measure => rw [HGK.out]; omega
        case rel => exact ⟨rfl, k + 1, by omega, by omega, by go_num, HN.out⟩
      · have hb : ((s[k].toNat : Int) != 0) = true := by
          rw [bne_iff_ne]
          intro h
          exact hz (UInt8.toNat_inj.1 (by simpa using h))
        have HE := Lib.hid (show zeroB s = false from by
          unfold zeroB
          rw [List.all_eq_false]
          exact ⟨s[k], List.getElem_mem (l := s.data.toList) hlt, by simpa using hz⟩)
        clear hz
        go_wp2_with fail
        go_ret
        exact ⟨ret_bool (by rw [HE.out]), rfl⟩
    · have HE := Lib.hid (show zeroB s = true from by
        unfold zeroB
        rw [List.all_eq_true]
        intro x hx
        obtain ⟨j, hj, rfl⟩ := List.getElem_of_mem hx
        have := HA.out j hj (by have : j < s.size := hj; omega)
        show (s[j] == 0) = true
        rw [this]
        rfl)
      go_wp2_with fail
      go_ret
      exact ⟨ret_bool (by rw [HE.out]), rfl⟩
end Go.Proofs.Ytkiciojipiakoaa
