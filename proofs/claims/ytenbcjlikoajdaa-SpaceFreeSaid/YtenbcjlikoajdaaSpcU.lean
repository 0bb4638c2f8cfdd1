/- Chapter 6: Largest and Fragments, on both sides. -/
import Derived.Test.YtenbcjlikoajdaaSpcT
namespace Go.Proofs.Ytenbcjlikoajdaa
set_option linter.unusedVariables false
set_option linter.unusedSimpArgs false
set_option linter.unusedSectionVars false
open Go.RowKit
def fragS (S : Nat → Bool) : Int × Int :=
  if cntL (normS S) = 0 then (0, 0) else (((normS S).length : Int), (100 * ((cntL (normS S) : Int) - (maxL (normS S) : Int))).tdiv (cntL (normS S) : Int))
section
variable {A : Option Addr} {c m : Nat} {l : List (Int × Int)} {w : World}
set_option maxRecDepth 100000 in
set_option maxHeartbeats 4000000 in
theorem largest_val (hn : m = l.length) (hl : l.length ≤ 1000) (hr : RunsAt w w.heap.size A l) (n : Int) (h : ((maxL (normS (memS l)) : Nat) : Int) = n) :
    Calls Try.prog 33 #[.slice A m c] w fun e w' => e = .returned (.int .i64 n) ∧ Grew w w' := by
  subst hn; subst h
  have HC := Lib.hid (normal_any A c l w w.heap.size (Nat.le_refl _) (by omega) hr)
  have hbd := normS_bd (memS l)
  have hNl := normS_len (memS l)
  generalize normS (memS l) = N at *
  have HBD := Lib.hid hbd
  clear hr hbd
  go_enter Try.func33, Try.ntmps33
  go_wp2_with fail
  refine HC.out.mono ?_
  rintro e w1 ⟨v, rfl, hown, hG⟩
  obtain ⟨A', c', hv, hr', _, _, _⟩ := own_runs2 hown (fun r hr => Nat.le_trans (HBD.out r hr) (by omega))
  subst hv
  have HR := Lib.hid hr'
  clear hown hr' HC
  go_wp2_with fail
  go_loopg [3, 9] N.length (fun gk nv i wr => ∃ k : Nat, k ≤ N.length ∧ gk = N.length - k ∧ i = .int .i64 (k : Int) ∧ nv = .int .i64 ((maxL (N.take k) : Nat) : Int) ∧ Grew w1 wr)
  case atStart => exact ⟨0, by omega, by omega, rfl, rfl, Grew.refl _⟩
  case round =>
    obtain ⟨k, hk, hgk, rfl, rfl, hg⟩ := hrel
    have HGK := Lib.hid hgk
    clear hgk
    have hgs := hg.size
    by_cases hlt : k < N.length
    · obtain ⟨b, off, rfl, hb, x0, x1⟩ := runs_nat (HR.out.keep (Nat.le_refl _) hg) hlt
      have hbs : b < wr.heap.size := by omega
      have hrb := HBD.out _ (List.getElem_mem hlt)
      have HMN := Lib.hid (maxL_snoc N k hlt)
      generalize N[k] = r at *
      obtain ⟨rf, rc⟩ := r
      simp only at x0 x1 hrb
      have HG1 := Lib.hid (hg.alloc (.cells #[.int .i64 (rf : Int), .int .i64 (rc : Int)] 25))
      generalize maxL (N.take k) = m0 at *
      have hqi : max (m0 : Int) (rc : Int) = ((max m0 rc : Nat) : Int) := by omega
      go_wp2_with fail
      go_roundg (N.length - (k + 1))
      case measure => rw [HGK.out]; omega
      case rel => exact ⟨k + 1, by omega, by omega, by go_num, by rw [HMN.out], HG1.out⟩
    · obtain rfl : k = N.length := by omega
      go_wp2_with fail
      go_ret
      exact ⟨ret_int (by rw [List.take_length]), hG.trans hg⟩
set_option maxRecDepth 100000 in
set_option maxHeartbeats 4000000 in
theorem rlargest_val (hn : m = l.length) (hl : l.length ≤ 1000) (hr : RunsAt w w.heap.size A l) (n : Int) (h : ((maxL (normS (memS l)) : Nat) : Int) = n) :
    Calls Try.prog 34 #[.slice A m c] w fun e w' => e = .returned (.int .i64 n) ∧ Grew w w' := by
  subst hn; subst h
  have HC := Lib.hid (rsorted_any A c l w w.heap.size (Nat.le_refl _) (by omega) hr)
  have hbd := sort_bd (memS l)
  have hNl := sort_len (memS l)
  have hh := maxL_head (memS l)
  generalize maxL (normS (memS l)) = mx at *
  generalize sortS (normS (memS l)) = M at *
  have HBD := Lib.hid hbd
  clear hr hbd
  rcases hh with ⟨rfl, rfl⟩ | ⟨⟨hf, hc⟩, t, rfl, hmx⟩
  · go_enter Try.func34, Try.ntmps34
    go_wp2_with fail
    refine HC.out.mono ?_
    rintro e w1 ⟨v, rfl, hown, hG⟩
    obtain ⟨A', c', hv, -⟩ := hown.listAt
    subst hv
    go_wp2_with fail
    go_ret
    exact ⟨rfl, hG⟩
  · simp only at hmx
    subst hmx
    go_enter Try.func34, Try.ntmps34
    go_wp2_with fail
    refine HC.out.mono ?_
    rintro e w1 ⟨v, rfl, hown, hG⟩
    obtain ⟨A', c', hv, hr', _, _, _⟩ := own_runs2 hown (fun r hr => Nat.le_trans (HBD.out r hr) (by omega))
    subst hv
    obtain ⟨b, off, rfl, hb, x0, x1⟩ := runs_nat hr' (k := 0) (by simp)
    have x1' : w1.cell? ⟨b, off + 1, none⟩ = some (.int .i64 (mx : Int)) := by simpa using x1
    have htl : 0 < (((hf, mx) :: t).length : Int) := by simp
    rw [List.length_cons]
    go_wp2_with fail
    go_ret
    exact ⟨rfl, hG⟩
end
end Go.Proofs.Ytenbcjlikoajdaa
