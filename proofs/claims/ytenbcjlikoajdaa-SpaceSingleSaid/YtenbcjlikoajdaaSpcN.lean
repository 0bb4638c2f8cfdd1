/- Chapter 6: Room, and SpaceWithin. -/
import Derived.Test.YtenbcjlikoajdaaSpcJ
namespace Go.Proofs.Ytenbcjlikoajdaa
set_option linter.unusedVariables false
set_option linter.unusedSimpArgs false
set_option linter.unusedSectionVars false
open Go.RowKit
theorem cntL_perm {a b : List (Nat × Nat)} (h : a.Perm b) : cntL a = cntL b := by unfold cntL; exact (h.map _).sum_nat
theorem cntL_take_le (l : List (Nat × Nat)) (k : Nat) : cntL (l.take k) ≤ cntL l := by
  have := cntL_append (l.take k) (l.drop k)
  rw [List.take_append_drop] at this
  omega
theorem cntL_le (l : List (Nat × Nat)) (h : ∀ r ∈ l, r.1 + r.2 ≤ 128) : cntL l ≤ 128 * l.length := by
  induction l with
  | nil => exact Nat.zero_le _
  | cons r l ih =>
    have h1 := h r (List.mem_cons_self ..)
    have h2 := ih (fun x hx => h x (List.mem_cons_of_mem _ hx))
    have e : cntL (r :: l) = r.2 + cntL l := by simp [cntL]
    rw [e, List.length_cons]
    omega
section
variable {A : Option Addr} {c m : Nat} {l : List (Int × Int)} {w : World}
set_option maxRecDepth 100000 in
set_option maxHeartbeats 4000000 in
theorem room_val (hn : m = l.length) (hl : l.length ≤ 1000000) (hr : RunsAt w w.heap.size A l) (most : Int) (m0 : 1 ≤ most) (m1 : most ≤ 9223372036854775807) (s : Int) (hs : ((cntL ((sortS (normS (memS l))).take most.toNat) : Nat) : Int) = s) :
    Calls Try.prog 19 #[.slice A m c, .int .i64 most] w fun e w' => e = .returned (.int .i64 s) ∧ Grew w w' := by
  subst hn; subst hs
  obtain ⟨mm, rfl⟩ : ∃ mm : Nat, most = (mm : Int) := ⟨most.toNat, by omega⟩
  have HC := Lib.hid (rsorted_any A c l w w.heap.size (Nat.le_refl _) hl hr)
  have hmb := sort_bd (memS l)
  have hml := sort_len (memS l)
  generalize sortS (normS (memS l)) = M at *
  have HMB := Lib.hid hmb
  rw [Int.toNat_natCast]
  clear hr hmb
  go_enter Try.func19, Try.ntmps19
  go_wp2_with fail
  refine HC.out.mono ?_
  rintro e w1 ⟨v, rfl, hown, hG⟩
  obtain ⟨A', c', hv, hr', _, _, _⟩ := own_runs2 hown (fun r hr => Nat.le_trans (HMB.out r hr) (by omega))
  subst hv
  have HR := Lib.hid hr'
  clear hown hr' HC
  go_wp2_with fail
  go_loopg [6, 7] M.length (fun gk nv i wr => w1 = wr ∧ ∃ k : Nat, k ≤ M.length ∧ k ≤ mm ∧ gk = M.length - k ∧ i = .int .i64 (k : Int) ∧ nv = .int .i64 ((cntL (M.take k) : Nat) : Int))
  case atStart => exact ⟨rfl, 0, by omega, by omega, by omega, rfl, by simp [cntL]⟩
  case round =>
    obtain ⟨rfl, k, hk, hkm, hgk, rfl, rfl⟩ := hrel
    have HGK := Lib.hid hgk
    clear hgk
    have hcl := cntL_le (M.take k) (fun r hr => HMB.out r (List.mem_of_mem_take hr))
    have htk : (M.take k).length ≤ 128 := Nat.le_trans (List.length_take_le _ _) (by omega)
    by_cases hlt : k < M.length
    · by_cases hlm : k < mm
      · obtain ⟨b, off, rfl, hb, x0, x1⟩ := runs_nat HR.out hlt
        have HCN := Lib.hid (cntL_snoc M k hlt)
        have hrb := HMB.out _ (List.getElem_mem hlt)
        generalize M[k] = r at *
        obtain ⟨rf, rc⟩ := r
        simp only at x0 x1 hrb
        go_wp2_with fail
        go_roundg (M.length - (k + 1))
        case measure => rw [HGK.out]; omega
        case rel => exact ⟨rfl, k + 1, by omega, by omega, by omega, by go_num, by rw [HCN.out]; go_num⟩
      · obtain rfl : k = mm := by omega
        go_wp2_with fail
        go_ret
        exact ⟨rfl, hG⟩
    · have HE := Lib.hid (show M.take mm = M.take k from by rw [List.take_of_length_le (by omega), List.take_of_length_le (by omega)])
      go_wp2_with fail
      go_ret
      exact ⟨ret_int (by rw [HE.out]), hG⟩
end
end Go.Proofs.Ytenbcjlikoajdaa
