/- Chapter 7: the reference's Valid. Chapter 7: the reference's Valid, where the first test is passed. Plain facts on the encoding of numbers, and AppendNumber's walk. Chapter 7: the encodings of labels. Chapter 7, plain: different labels have different encodings. Chapter 7: ValidName and the head, on both sides. The lists of runs that the laws take. Arguments opened: labels by value. The row's last step, for every law: the call returns true and turns nothing that was there. Chapter 7: LabelValid. Chapter 6, plain: the best run, the runs by size, and what is taken from them. Chapter 6: Best, on both sides. slices.SortFunc, laid at this program (written by lay.py out of the kit's own command). Chapter 6: the comparison of two runs, and the sort by it. -/
import Derived.IntWalk
import Derived.WalkKit
import Derived.WalkSpells
import Derived.WalkLawsBesides
import Derived.Handy
import Derived.Lib.Hide
import Derived.OwnWalk
import Derived.RegionTactic
import Derived.ChangeAlike
import Derived.PlainAid
import Derived.Deep.RegionWith
import Derived.Deep.RegionHeld3
import Derived.Deep.DrawnRows
import Derived.Lib.Strings
import Derived.ProofKit
import Derived.OpenShut
import Derived.Shelf.SlSortCmp.WholeK
import Derived.Shelf.SlSortCmp.NoneTotal
import Derived.Test.YtnlaogneceanoaaGreatCsA
import Derived.Test.YtnlaogneceanoaaGreatCsB
import Derived.Test.YtnlaogneceanoaaGreatCsC
namespace Go.Proofs.YtnlaogneceanoaaGreat
set_option linter.unusedVariables false
set_option linter.unusedSimpArgs false
set_option linter.unusedSectionVars false
open Go.RowKit
attribute [local go_sem ↓] Go.wp_at_zero Go.wp_at_succ
def rokR (t : Int) (r : Int × Int) : Prop := ttS t ≤ r.1 ∧ r.1 < t ∧ 1 ≤ r.2 ∧ r.2 ≤ t - r.1
theorem stepJ_pos (acc : List (Nat × Nat)) (r : Nat × Nat) (h : ∀ x ∈ acc, 0 < x.2) : ∀ x ∈ stepJ acc r, 0 < x.2 := by
  intro x hx
  unfold stepJ at hx
  split at hx
  · exact h x hx
  · rename_i hr
    split at hx
    · rcases List.mem_or_eq_of_mem_set hx with hx | rfl
      · exact h x hx
      · show 0 < _ + r.2
        omega
    · rcases List.mem_append.1 hx with hx | hx
      · exact h x hx
      · rw [List.mem_singleton.1 hx]
        omega
theorem joinS_pos (l : List (Int × Int)) : ∀ x ∈ joinS l, 0 < x.2 := by
  have key : ∀ (l : List (Int × Int)) (acc : List (Nat × Nat)), (∀ x ∈ acc, 0 < x.2) → ∀ x ∈ l.foldl (fun acc x => stepJ acc (clipS x)) acc, 0 < x.2 := by
    intro l
    induction l with
    | nil => intro acc h; exact h
    | cons r l ih => intro acc h; exact ih _ (stepJ_pos acc _ h)
  exact key l [] (by simp)
theorem rok_of (l : Lab) (t : Int) (hj : jnB l = true) (hi : inB l t = true) : ∀ r ∈ l.ext, rokR t r := by
  intro r hr
  have h1 : badR t r = false := by
    unfold inB at hi
    rw [Bool.not_eq_true', List.any_eq_false] at hi
    simpa using hi r hr
  have h2 : ¬ (r.1 < ttS t) ∧ ¬ (t < r.1 + r.2) := by
    unfold badR at h1
    simpa using h1
  unfold jnB at hj
  rw [Bool.and_eq_true, decide_eq_true_eq] at hj
  rw [← hj.1] at hr
  obtain ⟨x, hx, rfl⟩ := List.mem_map.1 hr
  have := joinS_pos l.ext x hx
  simp only at h2
  unfold rokR
  simp only
  omega
theorem in_of_rok (l : Lab) (t : Int) (h : ∀ r ∈ l.ext, rokR t r) : inB l t = true := by
  unfold inB
  rw [Bool.not_eq_true', List.any_eq_false]
  intro r hr
  have := h r hr
  unfold rokR at this
  unfold badR
  simp
  omega
theorem valid_norok (l : Lab) (t : Int) (r : Int × Int) (hr : r ∈ l.ext) (h : ¬ rokR t r) : validL l t = false := by
  cases hj : jnB l with
  | false => exact valid_false l t 4 hj
  | true =>
    cases hi : inB l t with
    | false => exact valid_false l t 5 hi
    | true => exact absurd (rok_of l t hj hi r hr) h
theorem valid_jn (l : Lab) (t : Int) (h0 : okT t = true) (h1 : idB l = true) (h2 : txB l = true) (h3 : cnB l = true) (h : ∀ r ∈ l.ext, rokR t r) : validL l t = jnB l := by
  unfold validL
  rw [h0, h1, h2, h3, in_of_rok l t h]
  simp
section
variable (A : Option Addr) (c : Nat) (l : Lab) (t : Int) (w : World)
set_option maxRecDepth 100000 in
set_option maxHeartbeats 4000000 in
/-- What stands behind the first test. -/
theorem rvalid_or (YES : ∀ (ho : okT t = true) (a1 : 1 ≤ l.id) (a2 : l.id ≤ 1099511627776) (a3 : 0 ≤ l.unit) (a4 : l.unit ≤ 1099511627776) (a5 : l.name.size ≤ 31) (a6 : l.note.size ≤ 400) (a7 : 1 ≤ l.ext.length) (a8 : l.ext.length ≤ 16), Calls Tryz.prog 51 #[.agg #[.int .i64 l.id, .int .i64 l.unit, .string l.name, .string l.note, .slice A l.ext.length c], .int .i64 t] w fun e w' => e = .returned (.bool (validL l t)) ∧ Grew w w') (h : LabAt w A c l) (hs : l.ext.length ≤ 100000) (t0 : -9223372036854775808 ≤ t) (t1 : t ≤ 9223372036854775807) :
    Calls Tryz.prog 51 #[.agg #[.int .i64 l.id, .int .i64 l.unit, .string l.name, .string l.note, .slice A l.ext.length c], .int .i64 t] w fun e w' => e = .returned (.bool (validL l t)) ∧ Grew w w' := by
  have HL := Lib.hid h
  have HB0 := Lib.hid (Blk.new w 31 #[.int .i64 l.id, .int .i64 l.unit, .string l.name, .string l.note, .slice A l.ext.length c] rfl)
  have HG0 := Lib.hid ((Grew.refl w).alloc (.cells #[.int .i64 l.id, .int .i64 l.unit, .string l.name, .string l.note, .slice A l.ext.length c] 31))
  have hi0 := h.id0
  have hi1 := h.id1
  have hu0 := h.unit0
  have hu1 := h.unit1
  have hns := h.name
  have hts := h.note
  have HF0 := Lib.hid (fun (hx : okT t = false) => valid_false l t 0 hx)
  have HF1 := Lib.hid (fun (hx : ¬ (1 ≤ l.id ∧ l.id ≤ 1099511627776 ∧ 0 ≤ l.unit ∧ l.unit ≤ 1099511627776)) => valid_false l t 1 (by show idB l = false; unfold idB; exact decide_eq_false hx))
  have HF2 := Lib.hid (fun (hx : ¬ (l.name.size ≤ 31 ∧ l.note.size ≤ 400)) => valid_false l t 2 (by show txB l = false; unfold txB; exact decide_eq_false hx))
  have HF3 := Lib.hid (fun (hx : ¬ (1 ≤ l.ext.length ∧ l.ext.length ≤ 16)) => valid_false l t 3 (by show cnB l = false; unfold cnB; exact decide_eq_false hx))
  have HNR := Lib.hid (valid_norok l t)
  have HJN := Lib.hid (valid_jn l t)
  have HT1 := Lib.hid (fun (hx : 1 ≤ l.id ∧ l.id ≤ 1099511627776 ∧ 0 ≤ l.unit ∧ l.unit ≤ 1099511627776) => show idB l = true from by unfold idB; exact decide_eq_true hx)
  have HT2 := Lib.hid (fun (hx : l.name.size ≤ 31 ∧ l.note.size ≤ 400) => show txB l = true from by unfold txB; exact decide_eq_true hx)
  have HT3 := Lib.hid (fun (hx : 1 ≤ l.ext.length ∧ l.ext.length ≤ 16) => show cnB l = true from by unfold cnB; exact decide_eq_true hx)
  have HVJ := Lib.hid (show jnB l = (decide (l.ext = ints (joinS l.ext)) && decide (seqS l.ext).Nodup) from by
    unfold jnB; congr 1; simp only [eq_comm])
  clear h
  have HYES := Lib.hid YES
  clear YES
  cases ho : okT t with
  | false =>
    have HE := Lib.hid (HF0.out ho)
    have HO := Lib.hid ho
    clear ho
    go_enter Tryz.func51, Tryz.ntmps51
    go_wp2_with fail
    refine (rvalid_any _ _).mono ?_
    rintro e w1 ⟨rfl, rfl⟩
    rw [HO.out]
    go_wp2_with fail
    go_ret
    exact ⟨ret_bool (by rw [HE.out]), HG0.out⟩
  | true =>
    have HO := Lib.hid ho
    clear ho
    by_cases a1 : 1 ≤ l.id
    rotate_left
    · have HE := Lib.hid (HF1.out (by omega))
      go_enter Tryz.func51, Tryz.ntmps51
      go_wp2_with fail
      refine (rvalid_any _ _).mono ?_
      rintro e w1 ⟨rfl, rfl⟩
      rw [HO.out]
      go_wp2_with fail
      go_ret
      exact ⟨ret_bool (by rw [HE.out]), HG0.out⟩
    by_cases a2 : l.id ≤ 1099511627776
    rotate_left
    · have HE := Lib.hid (HF1.out (by omega))
      go_enter Tryz.func51, Tryz.ntmps51
      go_wp2_with fail
      refine (rvalid_any _ _).mono ?_
      rintro e w1 ⟨rfl, rfl⟩
      rw [HO.out]
      go_wp2_with fail
      go_ret
      exact ⟨ret_bool (by rw [HE.out]), HG0.out⟩
    by_cases a3 : 0 ≤ l.unit
    rotate_left
    · have HE := Lib.hid (HF1.out (by omega))
      go_enter Tryz.func51, Tryz.ntmps51
      go_wp2_with fail
      refine (rvalid_any _ _).mono ?_
      rintro e w1 ⟨rfl, rfl⟩
      rw [HO.out]
      go_wp2_with fail
      go_ret
      exact ⟨ret_bool (by rw [HE.out]), HG0.out⟩
    by_cases a4 : l.unit ≤ 1099511627776
    rotate_left
    · have HE := Lib.hid (HF1.out (by omega))
      go_enter Tryz.func51, Tryz.ntmps51
      go_wp2_with fail
      refine (rvalid_any _ _).mono ?_
      rintro e w1 ⟨rfl, rfl⟩
      rw [HO.out]
      go_wp2_with fail
      go_ret
      exact ⟨ret_bool (by rw [HE.out]), HG0.out⟩
    by_cases a5 : l.name.size ≤ 31
    rotate_left
    · have HE := Lib.hid (HF2.out (by omega))
      have a5i : ¬ (l.name.size : Int) ≤ 31 := by omega
      go_enter Tryz.func51, Tryz.ntmps51
      go_wp2_with fail
      refine (rvalid_any _ _).mono ?_
      rintro e w1 ⟨rfl, rfl⟩
      rw [HO.out]
      go_wp2_with fail
      go_ret
      exact ⟨ret_bool (by rw [HE.out]), HG0.out⟩
    have a5i : (l.name.size : Int) ≤ 31 := by omega
    by_cases a6 : l.note.size ≤ 400
    rotate_left
    · have HE := Lib.hid (HF2.out (by omega))
      have a6i : ¬ (l.note.size : Int) ≤ 400 := by omega
      go_enter Tryz.func51, Tryz.ntmps51
      go_wp2_with fail
      refine (rvalid_any _ _).mono ?_
      rintro e w1 ⟨rfl, rfl⟩
      rw [HO.out]
      go_wp2_with fail
      go_ret
      exact ⟨ret_bool (by rw [HE.out]), HG0.out⟩
    have a6i : (l.note.size : Int) ≤ 400 := by omega
    by_cases a7 : 1 ≤ l.ext.length
    rotate_left
    · have HE := Lib.hid (HF3.out (by omega))
      have a7i : ¬ 1 ≤ (l.ext.length : Int) := by omega
      go_enter Tryz.func51, Tryz.ntmps51
      go_wp2_with fail
      refine (rvalid_any _ _).mono ?_
      rintro e w1 ⟨rfl, rfl⟩
      rw [HO.out]
      go_wp2_with fail
      go_ret
      exact ⟨ret_bool (by rw [HE.out]), HG0.out⟩
    have a7i : 1 ≤ (l.ext.length : Int) := by omega
    by_cases a8 : l.ext.length ≤ 16
    rotate_left
    · have HE := Lib.hid (HF3.out (by omega))
      have a8i : ¬ (l.ext.length : Int) ≤ 16 := by omega
      go_enter Tryz.func51, Tryz.ntmps51
      go_wp2_with fail
      refine (rvalid_any _ _).mono ?_
      rintro e w1 ⟨rfl, rfl⟩
      rw [HO.out]
      go_wp2_with fail
      go_ret
      exact ⟨ret_bool (by rw [HE.out]), HG0.out⟩
    have a8i : (l.ext.length : Int) ≤ 16 := by omega
    exact HYES.out HO.out a1 a2 a3 a4 a5 a6 a7 a8
end
end Go.Proofs.YtnlaogneceanoaaGreat
namespace Go.Proofs.YtnlaogneceanoaaGreat
set_option linter.unusedVariables false
set_option linter.unusedSimpArgs false
set_option linter.unusedSectionVars false
open Go.RowKit
attribute [local go_sem ↓] Go.wp_at_zero Go.wp_at_succ
section
variable (A : Option Addr) (c : Nat) (l : Lab) (t : Int) (w : World)
set_option maxRecDepth 100000 in
set_option maxHeartbeats 4000000 in
/-- What stands behind the first test. -/
theorem rvalid_yes (ho : okT t = true) (a1 : 1 ≤ l.id) (a2 : l.id ≤ 1099511627776) (a3 : 0 ≤ l.unit) (a4 : l.unit ≤ 1099511627776) (a5 : l.name.size ≤ 31) (a6 : l.note.size ≤ 400) (a7 : 1 ≤ l.ext.length) (a8 : l.ext.length ≤ 16) (h : LabAt w A c l) (hs : l.ext.length ≤ 100000) (t0 : -9223372036854775808 ≤ t) (t1 : t ≤ 9223372036854775807) :
    Calls Tryz.prog 51 #[.agg #[.int .i64 l.id, .int .i64 l.unit, .string l.name, .string l.note, .slice A l.ext.length c], .int .i64 t] w fun e w' => e = .returned (.bool (validL l t)) ∧ Grew w w' := by
  have HL := Lib.hid h
  have HB0 := Lib.hid (Blk.new w 31 #[.int .i64 l.id, .int .i64 l.unit, .string l.name, .string l.note, .slice A l.ext.length c] rfl)
  have HG0 := Lib.hid ((Grew.refl w).alloc (.cells #[.int .i64 l.id, .int .i64 l.unit, .string l.name, .string l.note, .slice A l.ext.length c] 31))
  have hi0 := h.id0
  have hi1 := h.id1
  have hu0 := h.unit0
  have hu1 := h.unit1
  have hns := h.name
  have hts := h.note
  have HF0 := Lib.hid (fun (hx : okT t = false) => valid_false l t 0 hx)
  have HF1 := Lib.hid (fun (hx : ¬ (1 ≤ l.id ∧ l.id ≤ 1099511627776 ∧ 0 ≤ l.unit ∧ l.unit ≤ 1099511627776)) => valid_false l t 1 (by show idB l = false; unfold idB; exact decide_eq_false hx))
  have HF2 := Lib.hid (fun (hx : ¬ (l.name.size ≤ 31 ∧ l.note.size ≤ 400)) => valid_false l t 2 (by show txB l = false; unfold txB; exact decide_eq_false hx))
  have HF3 := Lib.hid (fun (hx : ¬ (1 ≤ l.ext.length ∧ l.ext.length ≤ 16)) => valid_false l t 3 (by show cnB l = false; unfold cnB; exact decide_eq_false hx))
  have HNR := Lib.hid (valid_norok l t)
  have HJN := Lib.hid (valid_jn l t)
  have HT1 := Lib.hid (fun (hx : 1 ≤ l.id ∧ l.id ≤ 1099511627776 ∧ 0 ≤ l.unit ∧ l.unit ≤ 1099511627776) => show idB l = true from by unfold idB; exact decide_eq_true hx)
  have HT2 := Lib.hid (fun (hx : l.name.size ≤ 31 ∧ l.note.size ≤ 400) => show txB l = true from by unfold txB; exact decide_eq_true hx)
  have HT3 := Lib.hid (fun (hx : 1 ≤ l.ext.length ∧ l.ext.length ≤ 16) => show cnB l = true from by unfold cnB; exact decide_eq_true hx)
  have HVJ := Lib.hid (show jnB l = (decide (l.ext = ints (joinS l.ext)) && decide (seqS l.ext).Nodup) from by
    unfold jnB; congr 1; simp only [eq_comm])
  clear h
  have HO := Lib.hid ho
  obtain ⟨ht4, ht8⟩ := okT_true ho
  clear ho
  have a5i : (l.name.size : Int) ≤ 31 := by omega
  have a6i : (l.note.size : Int) ≤ 400 := by omega
  have a7i : 1 ≤ (l.ext.length : Int) := by omega
  have a8i : (l.ext.length : Int) ≤ 16 := by omega
  have HI1 := Lib.hid (HT1.out ⟨a1, a2, a3, a4⟩)
  have HI2 := Lib.hid (HT2.out ⟨a5, a6⟩)
  have HI3 := Lib.hid (HT3.out ⟨a7, a8⟩)
  go_enter Tryz.func51, Tryz.ntmps51
  go_wp2_with fail
  refine (rvalid_any _ _).mono ?_
  rintro e w1 ⟨rfl, rfl⟩
  rw [HO.out]
  obtain ⟨tt, htt⟩ : ∃ tt, ttS t = tt := ⟨_, rfl⟩
  have htb := ttS_bd t
  rw [htt] at htb
  obtain ⟨htb0, htb1⟩ := htb
  have HTT := Lib.hid htt
  have HTC := Lib.hid (fun w => (rtable_any t w))
  clear htt
  go_wp2_with fail
  go_loopg [5] l.ext.length (fun gk i wr => ∃ k : Nat, k ≤ l.ext.length ∧ gk = l.ext.length - k ∧ i = .int .i64 k ∧ (∀ j (hj : j < l.ext.length), j < k → rokR t l.ext[j]) ∧ Grew (w.alloc (.cells #[.int .i64 l.id, .int .i64 l.unit, .string l.name, .string l.note, .slice A l.ext.length c] 31)) wr)
  case atStart => exact ⟨0, by omega, by omega, rfl, fun j hj h => by omega, Grew.refl _⟩
  case round =>
    obtain ⟨k, hk, hgk, rfl, hall, hg⟩ := hrel
    have HGK := Lib.hid hgk
    have HA := Lib.hid hall
    have HG := Lib.hid hg
    have hbx := HB0.out.grew hg
    have x4 := hbx.cell 4
    have hbl := hbx.lt
    have HR := Lib.hid (HL.out.hold (HG0.out.trans hg))
    have HBX := Lib.hid hbx
    clear hgk hall hbx
    by_cases hlt : k < l.ext.length
    · obtain ⟨b, off, f, n, rfl, hb, hv, hok, c0, c1⟩ := HR.out.runs.at_ hlt
      obtain ⟨k0, k1, k2, k3⟩ := hok
      simp only at k0 k1 k2 k3
      have HBAD := Lib.hid (show ¬ rokR t (f, n) → validL l t = false from fun h => HNR.out (f, n) (by rw [← hv]; exact List.getElem_mem hlt) h)
      have HOKN := Lib.hid (show rokR t (f, n) → ∀ j (hj : j < l.ext.length), j < k + 1 → rokR t l.ext[j] from fun h j hj hjk => by
        by_cases hjk' : j = k
        · subst hjk'; rw [hv]; exact h
        · exact HA.out j hj (by omega))
      have HRD := Lib.hid (show rokR t (f, n) ↔ (tt ≤ f ∧ f < t ∧ 1 ≤ n ∧ n ≤ t - f) from by unfold rokR; rw [HTT.out])
      clear hv hg
      by_cases r1 : tt ≤ f
      rotate_left
      · have dr1 : decide (f < tt) = true := decide_eq_true (by omega)
        have HE := Lib.hid (HBAD.out (fun h => by have := HRD.out.1 h; omega))
        go_wp2_with fail
        go_quiet ((go_at_call 48; exact Calls.quiet_of_same ((HTC.out _).mono (fun _ _ h => ⟨by rw [HTT.out] at h; exact h.1, h.2.symm⟩))))
        go_wp2_with fail
        go_ret
        exact ⟨ret_bool (by rw [HE.out]), ((HG0.out.trans HG.out).alloc _).drewN _⟩
      have dr1 : decide (f < tt) = false := decide_eq_false (by omega)
      by_cases r2 : f < t
      rotate_left
      · have dr2 : decide (t ≤ f) = true := decide_eq_true (by omega)
        have HE := Lib.hid (HBAD.out (fun h => by have := HRD.out.1 h; omega))
        go_wp2_with fail
        go_quiet ((go_at_call 48; exact Calls.quiet_of_same ((HTC.out _).mono (fun _ _ h => ⟨by rw [HTT.out] at h; exact h.1, h.2.symm⟩))))
        go_wp2_with fail
        go_ret
        exact ⟨ret_bool (by rw [HE.out]), ((HG0.out.trans HG.out).alloc _).drewN _⟩
      have dr2 : decide (t ≤ f) = false := decide_eq_false (by omega)
      have hsub : IntKind.i64.wrap (t - f) = t - f := IntWalk.i64_in _ (by omega)
      by_cases r3 : 1 ≤ n
      rotate_left
      · have dr3 : decide (n < 1) = true := decide_eq_true (by omega)
        have HE := Lib.hid (HBAD.out (fun h => by have := HRD.out.1 h; omega))
        go_wp2_with fail
        go_quiet ((go_at_call 48; exact Calls.quiet_of_same ((HTC.out _).mono (fun _ _ h => ⟨by rw [HTT.out] at h; exact h.1, h.2.symm⟩))))
        go_wp2_with fail
        go_ret
        exact ⟨ret_bool (by rw [HE.out]), ((HG0.out.trans HG.out).alloc _).drewN _⟩
      have dr3 : decide (n < 1) = false := decide_eq_false (by omega)
      by_cases r4 : n ≤ t - f
      rotate_left
      · have dr4 : decide (t - f < n) = true := decide_eq_true (by omega)
        have HE := Lib.hid (HBAD.out (fun h => by have := HRD.out.1 h; omega))
        go_wp2_with fail
        go_quiet ((go_at_call 48; exact Calls.quiet_of_same ((HTC.out _).mono (fun _ _ h => ⟨by rw [HTT.out] at h; exact h.1, h.2.symm⟩))))
        go_wp2_with fail
        go_ret
        exact ⟨ret_bool (by rw [HE.out]), ((HG0.out.trans HG.out).alloc _).drewN _⟩
      have dr4 : decide (t - f < n) = false := decide_eq_false (by omega)
      have HN := Lib.hid (HOKN.out (HRD.out.2 ⟨r1, r2, r3, r4⟩))
      go_wp2_with fail
      go_quiet ((go_at_call 48; exact Calls.quiet_of_same ((HTC.out _).mono (fun _ _ h => ⟨by rw [HTT.out] at h; exact h.1, h.2.symm⟩))))
      go_wp2_with fail
      go_roundg (l.ext.length - (k + 1))
      case measure => rw [HGK.out]; omega
      case rel => exact ⟨k + 1, by omega, by omega, by go_num, HN.out, (HG.out.alloc _).drewN _⟩
    · have HALL := Lib.hid (show validL l t = jnB l from HJN.out HO.out HI1.out HI2.out HI3.out (fun r hr => by
        obtain ⟨j, hj, rfl⟩ := List.getElem_of_mem hr
        exact HA.out j hj (by omega)))
      obtain ⟨kj, hkj⟩ : ∃ kj, ints (joinS l.ext) = kj := ⟨_, rfl⟩
      have hkl : kj.length ≤ l.ext.length := by rw [← hkj, ints_len]; exact joinS_len _
      have HKJ := Lib.hid hkj
      have HVV := Lib.hid (show validL l t = (decide (l.ext = kj) && decide (seqS l.ext).Nodup) from by rw [HALL.out, HVJ.out, hkj])
      obtain ⟨wm, hwm⟩ : ∃ wm, wm = wr := ⟨_, rfl⟩
      subst hwm
      have hgm := HG0.out.trans hg
      clear hkj hg
      cases hj : decide (l.ext = kj) with
      | false =>
        have HJ := Lib.hid hj
        clear hj
        go_wp2_with fail
        refine wp_region_R [] (fun w' : World => w'.cell? ⟨w.heap.size, 4, none⟩ = some (.slice A l.ext.length c)) (by kernel_rfl) ?_
        have hS := HBX.out.drew.cell 4
        refine wpAnyR_takeQ (i := 0) (v := ?_) (some 91) rfl rfl (by kernel_rfl) (by kernel_rfl) (by kernel_rfl) (by kernel_rfl) (fun _ _ _ h => h) (Or.inl ⟨by rfl, ?_⟩) ?_
        rotate_left
        focus (intro wS hSw; (try dsimp only at hSw); go_simp; (try with_reducible rfl); (try (first | (rw [if_pos (by omega)]; (try go_simp); (try with_reducible rfl)) | (rw [if_neg (by omega)]; (try go_simp); (try with_reducible rfl)))))
        try simp only [Act.put, List.setIfInBounds_toArray, List.set_cons_zero, List.set_cons_succ]
        refine wpAnyR_take (i := 1) (v := ?_) [5, 6, 7, 8, 9, 10, 11] (some 92) rfl rfl (by kernel_rfl) (by kernel_rfl) (by kernel_rfl) (by kernel_rfl) (by kernel_rfl) (by kernel_rfl) (by kernel_rfl) (fun _ _ _ h => h) (Or.inl ⟨by rfl, ?_⟩) hS ?_
        rotate_left
        focus (intro wS hSw; (try dsimp only at hSw); go_simp; (try with_reducible rfl); (try (first | (rw [if_pos (by omega)]; (try go_simp); (try with_reducible rfl)) | (rw [if_neg (by omega)]; (try go_simp); (try with_reducible rfl)))))
        try simp only [Act.put, List.setIfInBounds_toArray, List.set_cons_zero, List.set_cons_succ]
        refine wpAnyR_takeQ (i := 2) (v := ?_) (some 93) rfl rfl (by kernel_rfl) (by kernel_rfl) (by kernel_rfl) (by kernel_rfl) (fun _ _ _ h => h) (Or.inl ⟨by rfl, ?_⟩) ?_
        rotate_left
        focus (intro wS hSw; (try dsimp only at hSw); go_simp; (try with_reducible rfl); (try (first | (rw [if_pos (by omega)]; (try go_simp); (try with_reducible rfl)) | (rw [if_neg (by omega)]; (try go_simp); (try with_reducible rfl)))))
        try simp only [Act.put, List.setIfInBounds_toArray, List.set_cons_zero, List.set_cons_succ]
        refine wpAnyR_take (i := 3) (v := ?_) [4, 5, 6, 7, 8, 9, 10, 11] (some 94) rfl rfl (by kernel_rfl) (by kernel_rfl) (by kernel_rfl) (by kernel_rfl) (by kernel_rfl) (by kernel_rfl) (by kernel_rfl) (fun _ _ _ h => h) (Or.inl ⟨by rfl, ?_⟩) hS ?_
        rotate_left
        focus (intro wS hSw; (try dsimp only at hSw); go_simp; (try with_reducible rfl); (try (first | (rw [if_pos (by omega)]; (try go_simp); (try with_reducible rfl)) | (rw [if_neg (by omega)]; (try go_simp); (try with_reducible rfl)))))
        try simp only [Act.put, List.setIfInBounds_toArray, List.set_cons_zero, List.set_cons_succ]
        refine wpAnyR_n1 (i := 4) rfl (by kernel_rfl) ?_
        intro K' hK
        rw [if_pos (by rfl)]
        simp only [List.getElem_toArray, List.getElem_cons_succ, List.getElem_cons_zero]
        go_wp2_with fail
        refine (refjoin_val (w := wm.drew) rfl (by omega) HR.out.runs kj HKJ.out).mono ?_
        rintro e w1 ⟨A1, c1, rfl, hr1, g1⟩
        have HR1 := Lib.hid hr1
        clear hr1
        go_wp2_with fail
        refine hK.out _ _ (.inr (fun _ => (HBX.out.drew.grew g1).cell 4)) ?_
        clear hK hS
        have g1' : Grew wm w1 := (Grew.refl wm).drew.trans g1
        have hS := (HBX.out.grew g1').cell 4
        refine wpAnyR_n1 (i := 5) rfl (by kernel_rfl) ?_
        intro K' hK
        rw [if_pos (by rfl)]
        simp only [List.getElem_toArray, List.getElem_cons_succ, List.getElem_cons_zero]
        go_wp2_with fail
        refine (same_any A A1 c c1 l.ext kj w1 w1.heap.size (Nat.le_refl _) (by omega) (by omega) ((HR.out.runs.keep (Nat.le_refl _) g1').mono2 g1'.size) HR1.out).mono ?_
        rintro e w2 ⟨rfl, g2'⟩
        rw [HJ.out]
        have g2 : Grew wm w2 := g1'.trans g2'
        go_wp2_with fail
        refine hK.out _ _ (.inr (fun _ => (HBX.out.grew g2).cell 4)) ?_
        clear hK hS
        have hS := (HBX.out.grew g2).cell 4
        refine wpAnyR_takeQ (i := 6) (v := ?_) (some 97) rfl rfl (by kernel_rfl) (by kernel_rfl) (by kernel_rfl) (by kernel_rfl) (fun _ _ _ h => h) (Or.inl ⟨by rfl, ?_⟩) ?_
        rotate_left
        focus (intro wS hSw; (try dsimp only at hSw); go_simp; (try with_reducible rfl); (try (first | (rw [if_pos (by omega)]; (try go_simp); (try with_reducible rfl)) | (rw [if_neg (by omega)]; (try go_simp); (try with_reducible rfl)))))
        try simp only [Act.put, List.setIfInBounds_toArray, List.set_cons_zero, List.set_cons_succ]
        refine wpAnyR_takeQ (i := 7) (v := undef) (some 98) rfl rfl (by kernel_rfl) (by kernel_rfl) (by kernel_rfl) (by kernel_rfl) (fun _ _ _ h => h) (Or.inr ⟨by rfl, rfl⟩) ?_
        try simp only [Act.put, List.setIfInBounds_toArray, List.set_cons_zero, List.set_cons_succ]
        refine wpAnyR_takeQ (i := 8) (v := undef) (some 99) rfl rfl (by kernel_rfl) (by kernel_rfl) (by kernel_rfl) (by kernel_rfl) (fun _ _ _ h => h) (Or.inr ⟨by rfl, rfl⟩) ?_
        try simp only [Act.put, List.setIfInBounds_toArray, List.set_cons_zero, List.set_cons_succ]
        refine wpAnyR_takeQ (i := 9) (v := undef) (some 100) rfl rfl (by kernel_rfl) (by kernel_rfl) (by kernel_rfl) (by kernel_rfl) (fun _ _ _ h => h) (Or.inr ⟨by rfl, rfl⟩) ?_
        try simp only [Act.put, List.setIfInBounds_toArray, List.set_cons_zero, List.set_cons_succ]
        refine wpAnyR_takeQ (i := 10) (v := ?_) (some 101) rfl rfl (by kernel_rfl) (by kernel_rfl) (by kernel_rfl) (by kernel_rfl) (fun _ _ _ h => h) (Or.inl ⟨by rfl, ?_⟩) ?_
        rotate_left
        focus (intro wS hSw; (try dsimp only at hSw); go_simp; (try with_reducible rfl); (try (first | (rw [if_pos (by omega)]; (try go_simp); (try with_reducible rfl)) | (rw [if_neg (by omega)]; (try go_simp); (try with_reducible rfl)))))
        try simp only [Act.put, List.setIfInBounds_toArray, List.set_cons_zero, List.set_cons_succ]
        refine wpAnyR_takeQ (i := 11) (v := ?_) (some 4) rfl rfl (by kernel_rfl) (by kernel_rfl) (by kernel_rfl) (by kernel_rfl) (fun _ _ _ h => h) (Or.inl ⟨by rfl, ?_⟩) ?_
        rotate_left
        focus (intro wS hSw; (try dsimp only at hSw); go_simp; (try with_reducible rfl); (try (first | (rw [if_pos (by omega)]; (try go_simp); (try with_reducible rfl)) | (rw [if_neg (by omega)]; (try go_simp); (try with_reducible rfl)))))
        try simp only [Act.put, List.setIfInBounds_toArray, List.set_cons_zero, List.set_cons_succ]
        refine wpAnyR_done (by kernel_rfl) ?_ _
        go_wp2_with fail
        go_ret
        exact ⟨ret_bool (by rw [HVV.out, HJ.out]; rfl), hgm.trans g2⟩
      | true =>
        have HJ := Lib.hid hj
        clear hj
        go_wp2_with fail
        refine wp_region_R [] (fun w' : World => w'.cell? ⟨w.heap.size, 4, none⟩ = some (.slice A l.ext.length c)) (by kernel_rfl) ?_
        have hS := HBX.out.drew.cell 4
        refine wpAnyR_takeQ (i := 0) (v := ?_) (some 91) rfl rfl (by kernel_rfl) (by kernel_rfl) (by kernel_rfl) (by kernel_rfl) (fun _ _ _ h => h) (Or.inl ⟨by rfl, ?_⟩) ?_
        rotate_left
        focus (intro wS hSw; (try dsimp only at hSw); go_simp; (try with_reducible rfl); (try (first | (rw [if_pos (by omega)]; (try go_simp); (try with_reducible rfl)) | (rw [if_neg (by omega)]; (try go_simp); (try with_reducible rfl)))))
        try simp only [Act.put, List.setIfInBounds_toArray, List.set_cons_zero, List.set_cons_succ]
        refine wpAnyR_take (i := 1) (v := ?_) [5, 6, 7, 8, 9, 10, 11] (some 92) rfl rfl (by kernel_rfl) (by kernel_rfl) (by kernel_rfl) (by kernel_rfl) (by kernel_rfl) (by kernel_rfl) (by kernel_rfl) (fun _ _ _ h => h) (Or.inl ⟨by rfl, ?_⟩) hS ?_
        rotate_left
        focus (intro wS hSw; (try dsimp only at hSw); go_simp; (try with_reducible rfl); (try (first | (rw [if_pos (by omega)]; (try go_simp); (try with_reducible rfl)) | (rw [if_neg (by omega)]; (try go_simp); (try with_reducible rfl)))))
        try simp only [Act.put, List.setIfInBounds_toArray, List.set_cons_zero, List.set_cons_succ]
        refine wpAnyR_takeQ (i := 2) (v := ?_) (some 93) rfl rfl (by kernel_rfl) (by kernel_rfl) (by kernel_rfl) (by kernel_rfl) (fun _ _ _ h => h) (Or.inl ⟨by rfl, ?_⟩) ?_
        rotate_left
        focus (intro wS hSw; (try dsimp only at hSw); go_simp; (try with_reducible rfl); (try (first | (rw [if_pos (by omega)]; (try go_simp); (try with_reducible rfl)) | (rw [if_neg (by omega)]; (try go_simp); (try with_reducible rfl)))))
        try simp only [Act.put, List.setIfInBounds_toArray, List.set_cons_zero, List.set_cons_succ]
        refine wpAnyR_take (i := 3) (v := ?_) [4, 5, 6, 7, 8, 9, 10, 11] (some 94) rfl rfl (by kernel_rfl) (by kernel_rfl) (by kernel_rfl) (by kernel_rfl) (by kernel_rfl) (by kernel_rfl) (by kernel_rfl) (fun _ _ _ h => h) (Or.inl ⟨by rfl, ?_⟩) hS ?_
        rotate_left
        focus (intro wS hSw; (try dsimp only at hSw); go_simp; (try with_reducible rfl); (try (first | (rw [if_pos (by omega)]; (try go_simp); (try with_reducible rfl)) | (rw [if_neg (by omega)]; (try go_simp); (try with_reducible rfl)))))
        try simp only [Act.put, List.setIfInBounds_toArray, List.set_cons_zero, List.set_cons_succ]
        refine wpAnyR_n1 (i := 4) rfl (by kernel_rfl) ?_
        intro K' hK
        rw [if_pos (by rfl)]
        simp only [List.getElem_toArray, List.getElem_cons_succ, List.getElem_cons_zero]
        go_wp2_with fail
        refine (refjoin_val (w := wm.drew) rfl (by omega) HR.out.runs kj HKJ.out).mono ?_
        rintro e w1 ⟨A1, c1, rfl, hr1, g1⟩
        have HR1 := Lib.hid hr1
        clear hr1
        go_wp2_with fail
        refine hK.out _ _ (.inr (fun _ => (HBX.out.drew.grew g1).cell 4)) ?_
        clear hK hS
        have g1' : Grew wm w1 := (Grew.refl wm).drew.trans g1
        have hS := (HBX.out.grew g1').cell 4
        refine wpAnyR_n1 (i := 5) rfl (by kernel_rfl) ?_
        intro K' hK
        rw [if_pos (by rfl)]
        simp only [List.getElem_toArray, List.getElem_cons_succ, List.getElem_cons_zero]
        go_wp2_with fail
        refine (same_any A A1 c c1 l.ext kj w1 w1.heap.size (Nat.le_refl _) (by omega) (by omega) ((HR.out.runs.keep (Nat.le_refl _) g1').mono2 g1'.size) HR1.out).mono ?_
        rintro e w2 ⟨rfl, g2'⟩
        rw [HJ.out]
        have g2 : Grew wm w2 := g1'.trans g2'
        go_wp2_with fail
        refine hK.out _ _ (.inr (fun _ => (HBX.out.grew g2).cell 4)) ?_
        clear hK hS
        have hS := (HBX.out.grew g2).cell 4
        refine wpAnyR_takeQ (i := 6) (v := ?_) (some 97) rfl rfl (by kernel_rfl) (by kernel_rfl) (by kernel_rfl) (by kernel_rfl) (fun _ _ _ h => h) (Or.inl ⟨by rfl, ?_⟩) ?_
        rotate_left
        focus (intro wS hSw; (try dsimp only at hSw); go_simp; (try with_reducible rfl); (try (first | (rw [if_pos (by omega)]; (try go_simp); (try with_reducible rfl)) | (rw [if_neg (by omega)]; (try go_simp); (try with_reducible rfl)))))
        try simp only [Act.put, List.setIfInBounds_toArray, List.set_cons_zero, List.set_cons_succ]
        refine wpAnyR_takeQ (i := 7) (v := ?_) (some 98) rfl rfl (by kernel_rfl) (by kernel_rfl) (by kernel_rfl) (by kernel_rfl) (fun _ _ _ h => h) (Or.inl ⟨by rfl, ?_⟩) ?_
        rotate_left
        focus (intro wS hSw; (try dsimp only at hSw); go_simp; (try with_reducible rfl); (try (first | (rw [if_pos (by omega)]; (try go_simp); (try with_reducible rfl)) | (rw [if_neg (by omega)]; (try go_simp); (try with_reducible rfl)))))
        try simp only [Act.put, List.setIfInBounds_toArray, List.set_cons_zero, List.set_cons_succ]
        refine wpAnyR_take (i := 8) (v := ?_) [9, 10, 11] (some 99) rfl rfl (by kernel_rfl) (by kernel_rfl) (by kernel_rfl) (by kernel_rfl) (by kernel_rfl) (by kernel_rfl) (by kernel_rfl) (fun _ _ _ h => h) (Or.inl ⟨by rfl, ?_⟩) hS ?_
        rotate_left
        focus (intro wS hSw; (try dsimp only at hSw); go_simp; (try with_reducible rfl); (try (first | (rw [if_pos (by omega)]; (try go_simp); (try with_reducible rfl)) | (rw [if_neg (by omega)]; (try go_simp); (try with_reducible rfl)))))
        try simp only [Act.put, List.setIfInBounds_toArray, List.set_cons_zero, List.set_cons_succ]
        refine wpAnyR_n1 (i := 9) rfl (by kernel_rfl) ?_
        intro K' hK
        rw [if_pos (by rfl)]
        simp only [List.getElem_toArray, List.getElem_cons_succ, List.getElem_cons_zero]
        go_wp2_with fail
        refine (refdisj_val rfl (by omega) ((HR.out.runs.keep (Nat.le_refl _) g2).mono2 g2.size) _ rfl).mono ?_
        rintro e w3 ⟨rfl, g3⟩
        have HG3 := Lib.hid (g2.trans g3)
        clear g3
        go_wp2_with fail
        refine hK.out _ _ (.inr (fun _ => (HBX.out.grew HG3.out).cell 4)) ?_
        clear hK
        refine wpAnyR_takeQ (i := 10) (v := ?_) (some 101) rfl rfl (by kernel_rfl) (by kernel_rfl) (by kernel_rfl) (by kernel_rfl) (fun _ _ _ h => h) (Or.inl ⟨by rfl, ?_⟩) ?_
        rotate_left
        focus (intro wS hSw; (try dsimp only at hSw); go_simp; (try with_reducible rfl); (try (first | (rw [if_pos (by omega)]; (try go_simp); (try with_reducible rfl)) | (rw [if_neg (by omega)]; (try go_simp); (try with_reducible rfl)))))
        try simp only [Act.put, List.setIfInBounds_toArray, List.set_cons_zero, List.set_cons_succ]
        refine wpAnyR_takeQ (i := 11) (v := ?_) (some 4) rfl rfl (by kernel_rfl) (by kernel_rfl) (by kernel_rfl) (by kernel_rfl) (fun _ _ _ h => h) (Or.inl ⟨by rfl, ?_⟩) ?_
        rotate_left
        focus (intro wS hSw; (try dsimp only at hSw); go_simp; (try with_reducible rfl); (try (first | (rw [if_pos (by omega)]; (try go_simp); (try with_reducible rfl)) | (rw [if_neg (by omega)]; (try go_simp); (try with_reducible rfl)))))
        try simp only [Act.put, List.setIfInBounds_toArray, List.set_cons_zero, List.set_cons_succ]
        refine wpAnyR_done (by kernel_rfl) ?_ _
        go_wp2_with fail
        go_ret
        exact ⟨ret_bool (by rw [HVV.out, HJ.out, Bool.true_and]), hgm.trans HG3.out⟩
set_option maxRecDepth 100000 in
theorem rvalid_lab (h : LabAt w A c l) (hs : l.ext.length ≤ 100000) (t0 : -9223372036854775808 ≤ t) (t1 : t ≤ 9223372036854775807) :
    Calls Tryz.prog 51 #[.agg #[.int .i64 l.id, .int .i64 l.unit, .string l.name, .string l.note, .slice A l.ext.length c], .int .i64 t] w fun e w' => e = .returned (.bool (validL l t)) ∧ Grew w w' :=
  rvalid_or A c l t w (fun ho a1 a2 a3 a4 a5 a6 a7 a8 => rvalid_yes A c l t w ho a1 a2 a3 a4 a5 a6 a7 a8 h hs t0 t1) h hs t0 t1
end
end Go.Proofs.YtnlaogneceanoaaGreat
namespace Go.Proofs.YtnlaogneceanoaaGreat
set_option linter.unusedVariables false
set_option linter.unusedSimpArgs false
set_option linter.unusedSectionVars false
open Go.RowKit
def hib (m : Nat) : UInt8 := UInt8.ofNat (m % 128 + 128)
def encF : Nat → Nat → List UInt8
  | 0, n => [UInt8.ofNat n]
  | k + 1, n => if n < 128 then [UInt8.ofNat n] else hib n :: encF k (n / 128)
def enc (n : Nat) : List UInt8 := encF 9 n
end Go.Proofs.YtnlaogneceanoaaGreat
namespace Go.Proofs.YtnlaogneceanoaaGreat
set_option linter.unusedVariables false
set_option linter.unusedSimpArgs false
set_option linter.unusedSectionVars false
open Go.RowKit
attribute [local go_sem ↓] Go.wp_at_zero Go.wp_at_succ
theorem equalZ_any (A : Option Addr) (c : Nat) (l : Lab) (w : World) (h : LabAt w A c l) (hl : l.ext.length ≤ 100000) :
    Calls Tryz.prog 62 #[.agg #[.int .i64 l.id, .int .i64 l.unit, .string l.name, .string l.note, .slice A l.ext.length c], .agg #[.int .i64 0, .int .i64 0, .string ⟨#[]⟩, .string ⟨#[]⟩, .slice none 0 0]] w fun e w' => e = .returned (.bool (eqL l labZ)) ∧ Grew w w' :=
  lequal_any A none c 0 l labZ w h (LabAt.zero w) hl (by simp [labZ])
theorem requalZ_any (A : Option Addr) (c : Nat) (l : Lab) (w : World) (h : LabAt w A c l) (hl : l.ext.length ≤ 100000) :
    Calls Tryz.prog 12 #[.agg #[.int .i64 l.id, .int .i64 l.unit, .string l.name, .string l.note, .slice A l.ext.length c], .agg #[.int .i64 0, .int .i64 0, .string ⟨#[]⟩, .string ⟨#[]⟩, .slice none 0 0]] w fun e w' => e = .returned (.bool (eqL l labZ)) ∧ Grew w w' :=
  requal_any A none c 0 l labZ w h (LabAt.zero w) hl (by simp [labZ])
end Go.Proofs.YtnlaogneceanoaaGreat
namespace Go.Proofs.YtnlaogneceanoaaGreat
set_option linter.unusedVariables false
set_option linter.unusedSimpArgs false
set_option linter.unusedSectionVars false
open Go.RowKit
def Whole (s again left : ByteArray) (err : Int) : Prop := (err ≠ 0 ∧ left = ⟨#[]⟩) ∨ (err = 0 ∧ again ++ left = s)
theorem bytes_eq {a b : ByteArray} (h : a.data.toList = b.data.toList) : a = b := by
  apply ByteArray.ext
  exact Array.toList_inj.1 h
theorem eqL_iff (l k : Lab) : eqL l k = true ↔ l = k := by
  obtain ⟨i1, u1, n1, t1, e1⟩ := l
  obtain ⟨i2, u2, n2, t2, e2⟩ := k
  unfold eqL
  simp only [Bool.and_eq_true, beq_iff_eq, decide_eq_true_eq, Lab.mk.injEq]
  constructor
  · rintro ⟨h1, h2, h3, h4, h5⟩
    exact ⟨h1, h2, bytes_eq (by simpa [ByteArray.toList_eq] using h3), bytes_eq (by simpa [ByteArray.toList_eq] using h4), h5⟩
  · rintro ⟨rfl, rfl, rfl, rfl, rfl⟩
    exact ⟨rfl, rfl, rfl, rfl, rfl⟩
end Go.Proofs.YtnlaogneceanoaaGreat
namespace Go.Proofs.YtnlaogneceanoaaGreat
set_option linter.unusedVariables false
set_option linter.unusedSimpArgs false
set_option linter.unusedSectionVars false
open Go.RowKit
attribute [local go_sem ↓] Go.wp_at_zero Go.wp_at_succ
def chrC (n : Nat) : Bool := decide (65 ≤ n ∧ n ≤ 90) || decide (48 ≤ n ∧ n ≤ 57)
def NameP (s : ByteArray) : Prop := 1 ≤ s.size ∧ s.size ≤ 8 ∧ (∀ j (hj : j < s.size), chrC s[j].toNat = true) ∧ ∀ _h : 0 < s.size, 65 ≤ s[0].toNat
instance (s : ByteArray) : Decidable (NameP s) := by unfold NameP; exact inferInstance
def nameOk (s : ByteArray) : Bool := decide (NameP s)
theorem nameOk_no {s : ByteArray} (h : ¬ NameP s) : nameOk s = false := decide_eq_false h
theorem nameOk_yes {s : ByteArray} (h : NameP s) : nameOk s = true := decide_eq_true h
theorem chrC_cases (n : Nat) : (chrC n = true ∧ 65 ≤ n ∧ n ≤ 90) ∨ (chrC n = true ∧ 48 ≤ n ∧ n ≤ 57) ∨ (chrC n = false ∧ n < 48) ∨ (chrC n = false ∧ 57 < n ∧ n < 65) ∨ (chrC n = false ∧ 90 < n) := by
  unfold chrC
  by_cases h1 : 65 ≤ n ∧ n ≤ 90
  · exact .inl ⟨by simp [h1], h1⟩
  · by_cases h2 : 48 ≤ n ∧ n ≤ 57
    · exact .inr (.inl ⟨by simp [h2], h2⟩)
    · have e : (decide (65 ≤ n ∧ n ≤ 90) || decide (48 ≤ n ∧ n ≤ 57)) = false := by rw [decide_eq_false h1, decide_eq_false h2]; rfl
      by_cases h3 : n < 48
      · exact .inr (.inr (.inl ⟨e, h3⟩))
      · by_cases h4 : n < 65
        · exact .inr (.inr (.inr (.inl ⟨e, by omega, h4⟩)))
        · exact .inr (.inr (.inr (.inr ⟨e, by omega⟩)))
set_option maxRecDepth 100000 in
set_option maxHeartbeats 1000000 in
theorem validName_any (s : ByteArray) (w : World) (hs : s.size ≤ 9223372036854775807) :
    Calls Tryz.prog 42 #[.string s] w fun e w' => e = .returned (.bool (nameOk s)) ∧ w = w' := by
  by_cases h0 : s.size < 1
  · have HE := Lib.hid (nameOk_no (s := s) (fun h => by have := h.1; omega))
    go_enter Tryz.func42, Tryz.ntmps42
    go_wp2_with fail
    go_ret
    exact ⟨ret_bool (by rw [HE.out]), rfl⟩
  by_cases h8 : s.size > 8
  · have HE := Lib.hid (nameOk_no (s := s) (fun h => by have := h.2.1; omega))
    go_enter Tryz.func42, Tryz.ntmps42
    go_wp2_with fail
    go_ret
    exact ⟨ret_bool (by rw [HE.out]), rfl⟩
  have hs1 : 0 < s.size := by omega
  by_cases hc : s[0].toNat < 65
  · have HE := Lib.hid (nameOk_no (s := s) (fun h => by have := h.2.2.2 hs1; omega))
    go_enter Tryz.func42, Tryz.ntmps42
    go_wp2_with fail
    go_ret
    exact ⟨ret_bool (by rw [HE.out]), rfl⟩
  go_enter Tryz.func42, Tryz.ntmps42
  go_wp2_with fail
  have HC := Lib.hid hc
  clear hc
  go_loopg [20] s.size (fun gk i wr => w = wr ∧ ∃ k : Nat, k ≤ s.size ∧ gk = s.size - k ∧ i = .int .i64 k ∧ ∀ j (hj : j < s.size), j < k → chrC s[j].toNat = true)
  case atStart => exact ⟨rfl, 0, by omega, by omega, rfl, fun j hj h => by omega⟩
  case round =>
    obtain ⟨rfl, k, hk, hgk, rfl, hall⟩ := hrel
    have HGK := Lib.hid hgk
    have HA := Lib.hid hall
    clear hgk hall
    by_cases hlt : k < s.size
    · have HN := Lib.hid (show chrC s[k].toNat = true → ∀ j (hj : j < s.size), j < k + 1 → chrC s[j].toNat = true from fun hz j hj hjk => by
          by_cases hjk' : j = k
          · subst hjk'; exact hz
          · exact HA.out j hj (by omega))
      have HF := Lib.hid (show chrC s[k].toNat = false → nameOk s = false from fun hz => nameOk_no (fun h => by have := h.2.2.1 k hlt; rw [hz] at this; cases this))
      rcases chrC_cases s[k].toNat with ⟨hz, a1, a2⟩ | ⟨hz, a1, a2⟩ | ⟨hz, a1⟩ | ⟨hz, a1, a2⟩ | ⟨hz, a1⟩
      · replace HN := Lib.hid (HN.out hz)
        clear hz HF
        go_wp2_with fail
        go_roundg (s.size - (k + 1))
        case measure => rw [HGK.out]; omega
        case rel => exact ⟨rfl, k + 1, by omega, by omega, by go_num, HN.out⟩
      · replace HN := Lib.hid (HN.out hz)
        clear hz HF
        go_wp2_with fail
        go_roundg (s.size - (k + 1))
        case measure => rw [HGK.out]; omega
        case rel => exact ⟨rfl, k + 1, by omega, by omega, by go_num, HN.out⟩
      · replace HF := Lib.hid (HF.out hz)
        clear hz HN
        go_wp2_with fail
        go_ret
        exact ⟨ret_bool (by rw [HF.out]), rfl⟩
      · replace HF := Lib.hid (HF.out hz)
        clear hz HN
        go_wp2_with fail
        go_ret
        exact ⟨ret_bool (by rw [HF.out]), rfl⟩
      · replace HF := Lib.hid (HF.out hz)
        clear hz HN
        go_wp2_with fail
        go_ret
        exact ⟨ret_bool (by rw [HF.out]), rfl⟩
    · have HE := Lib.hid (show nameOk s = true from nameOk_yes ⟨by omega, by omega, fun j hj => HA.out j hj (by omega), fun _ => by have := HC.out; omega⟩)
      go_wp2_with fail
      go_ret
      exact ⟨ret_bool (by rw [HE.out]), rfl⟩
set_option maxRecDepth 100000 in
set_option maxHeartbeats 1000000 in
theorem rvalidName_any (s : ByteArray) (w : World) (hs : s.size ≤ 9223372036854775807) :
    Calls Tryz.prog 47 #[.string s] w fun e w' => e = .returned (.bool (nameOk s)) ∧ w = w' := by
  go_enter Tryz.func47, Tryz.ntmps47
  go_wp2_with fail
  go_loopg [3] s.size (fun gk i wr => w = wr ∧ ∃ k : Nat, k ≤ s.size ∧ gk = s.size - k ∧ i = .int .i64 k ∧ ∀ j (hj : j < s.size), j < k → chrC s[j].toNat = true ∧ (j = 0 → 65 ≤ s[j].toNat))
  case atStart => exact ⟨rfl, 0, by omega, by omega, rfl, fun j hj h => by omega⟩
  case round =>
    obtain ⟨rfl, k, hk, hgk, rfl, hall⟩ := hrel
    have HGK := Lib.hid hgk
    have HA := Lib.hid hall
    clear hgk hall
    by_cases hlt : k < s.size
    · have HN := Lib.hid (show chrC s[k].toNat = true → (k = 0 → 65 ≤ s[k].toNat) → ∀ j (hj : j < s.size), j < k + 1 → chrC s[j].toNat = true ∧ (j = 0 → 65 ≤ s[j].toNat) from fun hz h0 j hj hjk => by
          by_cases hjk' : j = k
          · subst hjk'; exact ⟨hz, h0⟩
          · exact HA.out j hj (by omega))
      have HF := Lib.hid (show chrC s[k].toNat = false → nameOk s = false from fun hz => nameOk_no (fun h => by have := h.2.2.1 k hlt; rw [hz] at this; cases this))
      have HF0 := Lib.hid (show k = 0 → s[k].toNat < 65 → nameOk s = false from fun hz hc => nameOk_no (fun h => by subst hz; have := h.2.2.2 hlt; omega))
      rcases chrC_cases s[k].toNat with ⟨hz, a1, a2⟩ | ⟨hz, a1, a2⟩ | ⟨hz, a1⟩ | ⟨hz, a1, a2⟩ | ⟨hz, a1⟩
      · replace HN := Lib.hid (HN.out hz (fun _ => a1))
        clear hz HF HF0
        go_wp2_with fail
        go_roundg (s.size - (k + 1))
        case measure => rw [HGK.out]; omega
        case rel => exact ⟨rfl, k + 1, by omega, by omega, by go_num, HN.out⟩
      · by_cases hk0 : k = 0
        · replace HF := Lib.hid (HF0.out hk0 (by omega))
          clear hz HN HF0
          subst hk0
          have b1 : decide ((s[0].toNat : Int) ≥ 65) = false := decide_eq_false (by omega)
          go_wp2_with fail
          go_ret
          exact ⟨ret_bool (by rw [HF.out]), rfl⟩
        · replace HN := Lib.hid (HN.out hz (fun h => absurd h hk0))
          clear hz HF HF0
          have hk1 : 0 < k := by omega
          have b1 : decide ((s[k].toNat : Int) ≤ 57) = true := decide_eq_true (by omega)
          go_wp2_with fail
          go_roundg (s.size - (k + 1))
          case measure => rw [HGK.out]; omega
          case rel => exact ⟨rfl, k + 1, by omega, by omega, by go_num, HN.out⟩
      · replace HF := Lib.hid (HF.out hz)
        clear hz HN HF0
        by_cases hk0 : k = 0
        · subst hk0
          go_wp2_with fail
          go_ret
          exact ⟨ret_bool (by rw [HF.out]), rfl⟩
        · have hk1 : 0 < k := by omega
          go_wp2_with fail
          go_ret
          exact ⟨ret_bool (by rw [HF.out]), rfl⟩
      · replace HF := Lib.hid (HF.out hz)
        clear hz HN HF0
        by_cases hk0 : k = 0
        · subst hk0
          have b57 : decide ((s[0].toNat : Int) ≤ 57) = false := decide_eq_false (by omega)
          go_wp2_with fail
          go_ret
          exact ⟨ret_bool (by rw [HF.out]), rfl⟩
        · have hk1 : 0 < k := by omega
          have b57 : decide ((s[k].toNat : Int) ≤ 57) = false := decide_eq_false (by omega)
          go_wp2_with fail
          go_ret
          exact ⟨ret_bool (by rw [HF.out]), rfl⟩
      · replace HF := Lib.hid (HF.out hz)
        clear hz HN HF0
        by_cases hk0 : k = 0
        · subst hk0
          have b57 : decide ((s[0].toNat : Int) ≤ 57) = false := decide_eq_false (by omega)
          have b90 : decide ((s[0].toNat : Int) ≤ 90) = false := decide_eq_false (by omega)
          go_wp2_with fail
          go_ret
          exact ⟨ret_bool (by rw [HF.out]), rfl⟩
        · have hk1 : 0 < k := by omega
          have b57 : decide ((s[k].toNat : Int) ≤ 57) = false := decide_eq_false (by omega)
          have b90 : decide ((s[k].toNat : Int) ≤ 90) = false := decide_eq_false (by omega)
          go_wp2_with fail
          go_ret
          exact ⟨ret_bool (by rw [HF.out]), rfl⟩
    · by_cases h1 : s.size < 1
      · have HE := Lib.hid (nameOk_no (s := s) (fun h => by have := h.1; omega))
        go_wp2_with fail
        go_ret
        exact ⟨ret_bool (by rw [HE.out]), rfl⟩
      · by_cases h8 : s.size > 8
        · have HE := Lib.hid (nameOk_no (s := s) (fun h => by have := h.2.1; omega))
          go_wp2_with fail
          go_ret
          exact ⟨ret_bool (by rw [HE.out]; exact decide_eq_false (by omega)), rfl⟩
        · have HE := Lib.hid (show nameOk s = true from nameOk_yes ⟨by omega, by omega, fun j hj => (HA.out j hj (by omega)).1, fun h => (HA.out 0 h (by omega)).2 rfl⟩)
          go_wp2_with fail
          go_ret
          exact ⟨ret_bool (by rw [HE.out]; exact decide_eq_true (by omega)), rfl⟩
end Go.Proofs.YtnlaogneceanoaaGreat
namespace Go.Proofs.YtnlaogneceanoaaGreat
set_option linter.unusedVariables false
set_option linter.unusedSimpArgs false
set_option linter.unusedSectionVars false
open Go.ChangeShapes Go.WideShapes Go.ChangeAt Go.RowKit Go.Deep
theorem wf_i64 {n : Int} (h : (Lit.int .i64 n).wf = true) : -9223372036854775808 ≤ n ∧ n ≤ 9223372036854775807 := by
  simp [Lit.wf, IntKind.min, IntKind.max, IntKind.signed, IntKind.bits] at h; omega
end Go.Proofs.YtnlaogneceanoaaGreat
namespace Go.Proofs.YtnlaogneceanoaaGreat
set_option linter.unusedVariables false
set_option linter.unusedSimpArgs false
set_option linter.unusedSectionVars false
open Go.ChangeShapes Go.WideShapes Go.ChangeAt Go.RowKit Go.Deep
section
variable {H : Type} {enc : TypeId × Value → H} {P : Program} {w : World}
theorem open_listF {α : Type} [Inhabited α] {t e : Nat} {sz fuel : Nat} {v : Value} {x0 : DataW H × List MemPlace} (ht : P.underlying t = some (.slice e)) (hsz : P.cellsOf e = sz) (hpos : 0 < sz) (f : α → List Value) (Pr : α → Prop)
    (hel : ∀ n cs y, cs.length = sz → DataW.trod enc P w 0 (fun _ => true) true n e cs = some y → ∃ a, Pr a ∧ cs = f a)
    (hf : DataW.trod enc P w 0 (fun _ => true) true fuel t [v] = some x0) :
    ∃ A c, ∃ l : List α, v = .slice A l.length c ∧ l.length ≤ c ∧ c ≤ 9223372036854775807 ∧ (∀ a ∈ l, Pr a) ∧ ListAt w w.heap.size sz A (l.map f) := by
  obtain ⟨A, n, c, rfl⟩ : ∃ A n c, v = .slice A n c := by
    rcases open_slice ht hf with ⟨h0, _⟩ | ⟨a, len, cap, m, n', D, Pl, hcs, _⟩
    · exact ⟨none, 0, 0, by injection h0⟩
    · exact ⟨some a, len, cap, by injection hcs⟩
  rcases open_slice ht hf with ⟨h0, _⟩ | ⟨a, len, cap, m, n', D, Pl, hcs, hb, hl, hm, hmm, hx, hi⟩
  · simp only [List.cons.injEq, and_true] at h0
    injection h0 with h1 h2 h3
    subst h1; subst h2; subst h3
    exact ⟨none, 0, [], rfl, by simp, by simp, by simp, fun h => absurd h (by simp)⟩
  · simp only [List.cons.injEq, and_true] at hcs
    injection hcs with h1 h2 h3
    subst h1; subst h2; subst h3
    rw [if_pos rfl] at hmm
    have hlm : n ≤ m := by omega
    have each : ∀ i, i < n → ∃ x : α, Pr x ∧ ∃ cs, cs = f x ∧ cs.length = sz ∧ w.cells? 0 (a.add (i * sz)) sz = some cs := fun i hin => by
      obtain ⟨cs', hc, ht'⟩ := hi i (by omega)
      rw [hsz] at hc
      have hlen := (World.cells?_some hc).2.1
      obtain ⟨x, hp, hcs⟩ := hel n' cs' _ hlen ht'
      exact ⟨x, hp, cs', hcs, hlen, hc⟩
    obtain ⟨g, hg⟩ := choose_lt each
    refine ⟨some a, c, (List.range n).map g, by simp, by simpa using hl, by unfold maxLen at hm; simpa using hm, ?_, fun h0 => ?_⟩
    · intro x hx
      rw [List.mem_map] at hx
      obtain ⟨i, hi', rfl⟩ := hx
      exact (hg i (List.mem_range.1 hi')).1
    · have hn : 0 < n := by simpa using h0
      obtain ⟨_, cs0, hcs0, hlen0, hc0⟩ := hg 0 hn
      have h1 := (World.cells?_some hc0).2.2 0 hpos
      rw [Nat.zero_mul] at h1
      have hv0 : cs0[0]? = some cs0[0] := List.getElem?_eq_getElem (by omega)
      have ha : (a.add 0).add 0 = a := by simp [Addr.add]
      rw [ha, hv0] at h1
      obtain ⟨hlt, hsp⟩ := cell_lt h1
      obtain ⟨b, off, sp⟩ := a
      simp only at hsp hlt
      subst hsp
      refine ⟨b, off, rfl, hlt, fun j cs hj i v hiv => ?_⟩
      have hjn : j < n := by
        rcases Nat.lt_or_ge j n with h | h
        · exact h
        · rw [List.getElem?_eq_none (by simpa using h)] at hj; cases hj
      obtain ⟨_, cs1, hcs1, hlen1, hc1⟩ := hg j hjn
      have hcs : cs = cs1 := by
        simp [List.getElem?_map, List.getElem?_range, hjn] at hj
        rw [← hj, hcs1]
      subst hcs
      have hil : i < sz := by
        rcases Nat.lt_or_ge i cs.length with h | h
        · omega
        · rw [List.getElem?_eq_none h] at hiv; cases hiv
      have h2 := (World.cells?_some hc1).2.2 i hil
      rw [add_plain, add_plain] at h2
      rw [h2, hiv]
end
section
variable {H : Type} {enc : TypeId × Value → H} {w : World}
theorem open_runsF {fuel : Nat} {v : Value} {x0 : DataW H × List MemPlace} (hf : DataW.trod enc Tryz.prog w 0 (fun _ => true) true fuel 29 [v] = some x0) :
    ∃ A c, ∃ l : List (Int × Int), v = .slice A l.length c ∧ l.length ≤ c ∧ c ≤ 9223372036854775807 ∧ RunsAt w w.heap.size A l := by
  obtain ⟨A, c, l, rfl, h1, h2, h3, h4⟩ := open_listF (α := Int × Int) (sz := 2) Tryz.underlying29 (by kernel_rfl) (by omega) runC okRun (fun n cs y hlen h => by
      have hf := struct_fields Tryz.underlying65 (by kernel_rfl) h
      obtain ⟨v0, _, _, e0, f0⟩ := hf 0 _ rfl (by omega)
      obtain ⟨v1, _, _, e1, f1⟩ := hf 1 _ rfl (by omega)
      obtain ⟨n0, hn0, _, w0⟩ := DataW.trod_int Tryz.underlying3 f0
      obtain ⟨n1, hn1, _, w1⟩ := DataW.trod_int Tryz.underlying3 f1
      injection hn0 with hn0 _
      injection hn1 with hn1 _
      subst hn0; subst hn1
      have b0 := wf_i64 w0
      have b1 := wf_i64 w1
      refine ⟨(n0, n1), ⟨b0.1, b0.2, b1.1, b1.2⟩, ?_⟩
      match cs, hlen with
      | [x0, x1], _ =>
        simp at e0 e1
        rw [e0, e1]
        rfl) hf
  exact ⟨A, c, l, rfl, h1, h2, h3, h4⟩
set_option maxRecDepth 100000 in
theorem open_labelC {n : Nat} {cs : List Value} {y : DataW H × List MemPlace} (hlen : cs.length = 5) (h : DataW.trod enc Tryz.prog w 0 (fun _ => true) true n 31 cs = some y) :
    ∃ A c, ∃ l : Lab, cs = [.int .i64 l.id, .int .i64 l.unit, .string l.name, .string l.note, .slice A l.ext.length c] ∧ LabAt w A c l := by
  have hf := struct_fields Tryz.underlying31 (by kernel_rfl) h
  obtain ⟨v0, _, _, e0, f0⟩ := hf 0 _ rfl (by omega)
  obtain ⟨v1, _, _, e1, f1⟩ := hf 1 _ rfl (by omega)
  obtain ⟨v2, _, _, e2, f2⟩ := hf 2 _ rfl (by omega)
  obtain ⟨v3, _, _, e3, f3⟩ := hf 3 _ rfl (by omega)
  obtain ⟨v4, _, _, e4, f4⟩ := hf 4 _ rfl (by omega)
  obtain ⟨n0, hn0, _, w0⟩ := DataW.trod_int Tryz.underlying3 f0
  obtain ⟨n1, hn1, _, w1⟩ := DataW.trod_int Tryz.underlying3 f1
  obtain ⟨n2, hn2, _, w2⟩ := DataW.trod_string Tryz.underlying9 f2
  obtain ⟨n3, hn3, _, w3⟩ := DataW.trod_string Tryz.underlying9 f3
  obtain ⟨A, c, ext, rfl, h1, h2, h3⟩ := open_runsF f4
  injection hn0 with hn0 _
  injection hn1 with hn1 _
  injection hn2 with hn2 _
  injection hn3 with hn3 _
  subst hn0; subst hn1; subst hn2; subst hn3
  have b0 := wf_i64 w0
  have b1 := wf_i64 w1
  unfold maxLen at w2 w3
  refine ⟨A, c, ⟨n0, n1, n2, n3, ext⟩, ?_, ⟨b0.1, b0.2, b1.1, b1.2, by simpa using w2, by simpa using w3, h3, h1, h2⟩⟩
  match cs, hlen with
  | [x0, x1, x2, x3, x4], _ =>
    simp at e0 e1 e2 e3 e4
    rw [e0, e1, e2, e3, e4]
end
end Go.Proofs.YtnlaogneceanoaaGreat
namespace Go.Proofs.YtnlaogneceanoaaGreat
set_option linter.unusedVariables false
set_option linter.unusedSimpArgs false
set_option linter.unusedSectionVars false
open Go.ChangeShapes Go.WideShapes Go.ChangeAt Go.RowKit
section
variable {H : Type} {enc : TypeId × Value → H} {P : Program}
theorem trodAll_stays (hl : laidOutB P = true) {W W' : World} {sp' : Nat → Bool} : ∀ {ts : List TypeId} {vs : List Value} {ds : List (DataW H)} {ps : List MemPlace},
    ts.all (fun t => P.readableRec t && decide (t < P.types.size)) = true →
    DataW.TrodAll enc P W 0 (fun _ => true) true ts vs ds ps → (∀ p ∈ ps, W.sameAt W' p) → (∀ p ∈ ps, sp' p.block = true) → DataW.TrodAll enc P W' 0 sp' true ts vs ds ps := by
  intro ts
  induction ts with
  | nil =>
    intro vs ds ps _ h _ _
    obtain ⟨rfl, rfl, rfl⟩ := trodAll_nil h
    exact rfl
  | cons t ts ih =>
    intro vs ds ps hts h hsame hs
    obtain ⟨v, vs', d, ds', p, q, rfl, rfl, rfl, h1, h2⟩ := trodAll_cons h
    rw [List.all_cons, Bool.and_eq_true, Bool.and_eq_true] at hts
    obtain ⟨⟨ht1, ht2⟩, ht3⟩ := hts
    exact trodAll_cons_mk (WideElems.Trod_stays hl ht1 (by simpa using ht2) h1 (fun x hx => hsame x (List.mem_append_left _ hx)) (fun x hx => hs x (List.mem_append_left _ hx)))
      (ih ht3 h2 (fun x hx => hsame x (List.mem_append_right _ hx)) (fun x hx => hs x (List.mem_append_right _ hx)))
theorem law_post {f : Func} {s : ChangeSpec} {apart fresh handsOn : Bool} {W W' : World} {args : Array Value} {ds gs : List (DataW H)} {before : List MemPlace} {tb : TypeId}
    (hl : laidOutB P = true) (hread : f.params.toList.all (fun t => P.readableRec t && decide (t < P.types.size)) = true) (hrt : f.resultTypes = #[tb]) (htb : P.underlying tb = some .bool) (hvars : s.vars = [])
    (hW : DataW.Whole enc P f.params.toList s.vars apart W args.toList ds gs before) (hfn : s.fn H (ds ++ gs) = { results := [.lit (.bool true)], args := ds }) (hg : Grew W W') :
    s.post enc P f apart fresh handsOn false W args (.bool true) W' := by
  have hlt : ∀ p ∈ before, p.block < W.heap.size := fun p hp => hW.lt p hp
  have hW0 := hW
  obtain ⟨p, q, hA, hV, rfl, hfz, hnd⟩ := hW
  rw [hvars] at hV
  obtain ⟨rfl, rfl⟩ := trodVars_none hV
  rw [List.append_nil] at hlt hW0
  have hA' := trodAll_stays hl (W' := W') (sp' := fun b => decide (b < W.heap.size)) hread hA (fun x hx => hg.same (hlt x hx)) (fun x hx => by simpa using hlt x hx)
  refine ⟨ds, [], p, [], p, [], hW0, ?_, ?_, ?_, ?_, fun h => by cases h⟩
  · rw [hfn, hrt]
    show DataW.TrodAll enc P W' _ (fun _ => false) handsOn [tb] [.bool true] [.lit (.bool true)] []
    exact trodAll_mk1 (shut_bool htb true)
  · rw [hfn]
    exact hA'
  · rw [hfn, hvars]
    exact rfl
  · exact hg.frame _
end
end Go.Proofs.YtnlaogneceanoaaGreat
namespace Go.Proofs.YtnlaogneceanoaaGreat
set_option linter.unusedVariables false
set_option linter.unusedSimpArgs false
set_option linter.unusedSectionVars false
open Go.RowKit
attribute [local go_sem ↓] Go.wp_at_zero Go.wp_at_succ
theorem eqL_self (l : Lab) : eqL l l = true := by unfold eqL; simp
theorem fewL_len (l : Lab) (h : fewL l = true) : l.name.size ≤ 100 ∧ l.note.size ≤ 500 ∧ l.ext.length ≤ 30 := by
  unfold fewL at h
  simp only [Bool.and_eq_true, decide_eq_true_eq] at h
  exact ⟨h.1.1, h.1.2, h.2⟩
end Go.Proofs.YtnlaogneceanoaaGreat
namespace Go.Proofs.YtnlaogneceanoaaGreat
set_option linter.unusedVariables false
set_option linter.unusedSimpArgs false
set_option linter.unusedSectionVars false
open Go.RowKit
def bestStep (n : Int) (b r : Nat × Nat) : Nat × Nat := if n ≤ (r.2 : Int) ∧ (b.2 = 0 ∨ r.2 < b.2) then r else b
def bestF (n : Int) (l : List (Nat × Nat)) : Nat × Nat := l.foldl (bestStep n) (0, 0)
theorem bestF_snoc (n : Int) (l : List (Nat × Nat)) (k : Nat) (h : k < l.length) : bestF n (l.take (k + 1)) = bestStep n (bestF n (l.take k)) l[k] := by
  unfold bestF; rw [List.take_succ_eq_append_getElem h, List.foldl_append]; rfl
theorem fold_inv {n : Int} (P : Nat × Nat → Prop) : ∀ (l : List (Nat × Nat)) (b : Nat × Nat), P b → (∀ r ∈ l, n ≤ (r.2 : Int) → P r) → P (l.foldl (bestStep n) b) := by
  intro l
  induction l with
  | nil => intro b hb _; exact hb
  | cons r l ih =>
    intro b hb h
    refine ih _ ?_ (fun x hx => h x (List.mem_cons_of_mem _ hx))
    unfold bestStep
    split
    · rename_i hc; exact h r (List.mem_cons_self ..) hc.1
    · exact hb
theorem bestF_inv {n : Int} (P : Nat × Nat → Prop) (l : List (Nat × Nat)) (h0 : P (0, 0)) (h : ∀ r ∈ l, n ≤ (r.2 : Int) → P r) : P (bestF n l) := fold_inv P l _ h0 h
theorem bestF_bd (n : Int) (l : List (Nat × Nat)) (m : Nat) (h : ∀ r ∈ l, r.1 + r.2 ≤ m) : (bestF n l).1 + (bestF n l).2 ≤ m :=
  bestF_inv (fun b => b.1 + b.2 ≤ m) l (Nat.zero_le _) (fun r hr _ => h r hr)
theorem bestF_mem (n : Int) (l : List (Nat × Nat)) : bestF n l = (0, 0) ∨ bestF n l ∈ l ∧ n ≤ ((bestF n l).2 : Int) :=
  bestF_inv (fun b => b = (0, 0) ∨ b ∈ l ∧ n ≤ (b.2 : Int)) l (.inl rfl) (fun r hr h => .inr ⟨hr, h⟩)
/-- The first tracks of the best run of a set. -/
def bestS (S : Nat → Bool) (n : Int) : (Int × Int) × Bool :=
  if n < 1 ∨ (bestF n (normS S)).2 = 0 then ((0, 0), false) else ((((bestF n (normS S)).1 : Int), n), true)
def cntL (l : List (Nat × Nat)) : Nat := (l.map (·.2)).sum
theorem cntL_append (a b : List (Nat × Nat)) : cntL (a ++ b) = cntL a + cntL b := by simp [cntL]
theorem cntL_one (x : Nat × Nat) : cntL [x] = x.2 := by simp [cntL]
theorem cntL_snoc (l : List (Nat × Nat)) (k : Nat) (h : k < l.length) : cntL (l.take (k + 1)) = cntL (l.take k) + l[k].2 := by
  rw [List.take_succ_eq_append_getElem h, cntL_append, cntL_one]
/-- What is taken from runs, one behind the other. -/
def takeR : List (Nat × Nat) → Nat → List (Nat × Nat)
  | [], _ => []
  | r :: l, n => if n = 0 then [] else (r.1, min r.2 n) :: takeR l (n - min r.2 n)
theorem takeR_end (x : Nat × Nat) : ∀ (l : List (Nat × Nat)) (n : Nat), takeR (l ++ [x]) n = takeR l n ++ (if n - cntL l = 0 then [] else [(x.1, min x.2 (n - cntL l))]) := by
  intro l
  induction l with
  | nil => intro n; show takeR [x] n = _; unfold takeR; by_cases h : n = 0 <;> simp [h, cntL, takeR]
  | cons r l ih =>
    intro n
    have e : cntL (r :: l) = r.2 + cntL l := by simp [cntL]
    show takeR (r :: (l ++ [x])) n = takeR (r :: l) n ++ _
    rw [takeR, takeR]
    by_cases h : n = 0
    · rw [if_pos h, if_pos h, if_pos (by omega)]; rfl
    · rw [if_neg h, if_neg h, ih, e, show n - min r.2 n - cntL l = n - (r.2 + cntL l) from by omega]; rfl
theorem takeR_snoc (l : List (Nat × Nat)) (k n : Nat) (h : k < l.length) : takeR (l.take (k + 1)) n = takeR (l.take k) n ++ (if n - cntL (l.take k) = 0 then [] else [(l[k].1, min l[k].2 (n - cntL (l.take k)))]) := by
  rw [List.take_succ_eq_append_getElem h, takeR_end]
theorem takeR_stop (b : List (Nat × Nat)) : ∀ (a : List (Nat × Nat)) (n : Nat), n - cntL a = 0 → takeR (a ++ b) n = takeR a n := by
  intro a
  induction a with
  | nil =>
    intro n h
    have hn : n = 0 := by simpa [cntL] using h
    subst hn
    cases b <;> simp [takeR]
  | cons r l ih =>
    intro n h
    have e : cntL (r :: l) = r.2 + cntL l := by simp [cntL]
    show takeR (r :: (l ++ b)) n = takeR (r :: l) n
    rw [takeR, takeR]
    by_cases h0 : n = 0
    · rw [if_pos h0, if_pos h0]
    · rw [if_neg h0, if_neg h0, ih _ (by omega)]
theorem takeR_bd (m : Nat) : ∀ (l : List (Nat × Nat)) (n : Nat), (∀ r ∈ l, r.1 + r.2 ≤ m) → ∀ r ∈ takeR l n, r.1 + r.2 ≤ m := by
  intro l
  induction l with
  | nil => intro n _ r hr; cases hr
  | cons x l ih =>
    intro n h r hr
    rw [takeR] at hr
    split at hr
    · cases hr
    · rcases List.mem_cons.1 hr with rfl | hr
      · have := h x (List.mem_cons_self ..); show x.1 + min x.2 n ≤ m; omega
      · exact ih _ (fun y hy => h y (List.mem_cons_of_mem _ hy)) r hr
theorem takeR_len : ∀ (l : List (Nat × Nat)) (n : Nat), (takeR l n).length ≤ l.length := by
  intro l
  induction l with
  | nil => intro n; exact Nat.zero_le _
  | cons x l ih =>
    intro n
    rw [takeR]
    split
    · exact Nat.zero_le _
    · rw [List.length_cons, List.length_cons]; have := ih (n - min x.2 n); omega
theorem normTo_asc (S : Nat → Bool) (k : Nat) : (normTo S k).Pairwise (fun a b => a.1 + a.2 < b.1) ∧ ∀ r ∈ normTo S k, 1 ≤ r.2 := by
  induction k with
  | zero => exact ⟨List.Pairwise.nil, fun r hr => by cases hr⟩
  | succ k ih =>
    show (stepN S (normTo S k) k).Pairwise _ ∧ ∀ r ∈ stepN S (normTo S k) k, _
    have hbd := normTo_bd S k
    unfold stepN
    split
    · exact ih
    · split
      · rename_i h1 h2
        rcases normTo_end S k with ⟨_, h⟩ | ⟨i, x, hx, _⟩
        · rw [h h2.1] at h2; cases h2.2
        · rw [hx] at ih ⊢
          have hb : bump (i ++ [x]) = i ++ [(x.1, x.2 + 1)] := by unfold bump; rw [last_getD, last_set]
          rw [hb]
          obtain ⟨ih1, ih2⟩ := ih
          rw [List.pairwise_append] at ih1 ⊢
          refine ⟨⟨ih1.1, List.pairwise_singleton _ _, fun a ha b hb => ?_⟩, fun r hr => ?_⟩
          · rw [List.mem_singleton.1 hb]; exact ih1.2.2 a ha x (List.mem_singleton.2 rfl)
          · rcases List.mem_append.1 hr with hr | hr
            · exact ih2 r (List.mem_append_left _ hr)
            · rw [List.mem_singleton.1 hr]; show 1 ≤ x.2 + 1; omega
      · rename_i h1 h2
        rcases normTo_end S k with ⟨h0, _⟩ | ⟨i, x, hx, hiff⟩
        · rw [h0]
          refine ⟨by rw [List.nil_append]; exact List.pairwise_singleton _ _, fun r hr => ?_⟩
          rw [List.nil_append] at hr
          rw [List.mem_singleton.1 hr]; exact Nat.le_refl _
        · rw [hx] at ih hbd ⊢
          obtain ⟨ih1, ih2⟩ := ih
          have hxb := hbd x (List.mem_append_right _ (List.mem_singleton.2 rfl))
          have hne : x.1 + x.2 ≠ k := fun e => h2 (hiff.1 e)
          refine ⟨List.pairwise_append.2 ⟨ih1, List.pairwise_singleton _ _, fun a ha b hb => ?_⟩, fun r hr => ?_⟩
          · rw [List.mem_singleton.1 hb]
            show a.1 + a.2 < k
            rcases List.mem_append.1 ha with ha | ha
            · have := (List.pairwise_append.1 ih1).2.2 a ha x (List.mem_singleton.2 rfl)
              omega
            · rw [List.mem_singleton.1 ha]; omega
          · rcases List.mem_append.1 hr with hr | hr
            · exact ih2 r hr
            · rw [List.mem_singleton.1 hr]; exact Nat.le_refl _
/-- The runs by decreasing size, and those of one size in their order. -/
def sortS (l : List (Nat × Nat)) : List (Nat × Nat) := (List.range 128).flatMap fun i => l.filter fun r => r.2 == 128 - i
theorem mem_sortS (l : List (Nat × Nat)) (h : ∀ r ∈ l, 1 ≤ r.2 ∧ r.2 ≤ 128) (r : Nat × Nat) : r ∈ sortS l ↔ r ∈ l := by
  unfold sortS
  rw [List.mem_flatMap]
  constructor
  · rintro ⟨i, _, hr⟩; exact (List.mem_filter.1 hr).1
  · intro hr
    have := h r hr
    exact ⟨128 - r.2, List.mem_range.2 (by omega), List.mem_filter.2 ⟨hr, by rw [beq_iff_eq]; omega⟩⟩
/-- Which run comes first. -/
def ltR (a b : Nat × Nat) : Prop := b.2 < a.2 ∨ a.2 = b.2 ∧ a.1 < b.1
theorem sortS_sorted (l : List (Nat × Nat)) (h : l.Pairwise (fun a b => a.1 < b.1)) : (sortS l).Pairwise ltR := by
  unfold sortS
  rw [List.flatMap_def, List.pairwise_flatten]
  refine ⟨fun x hx => ?_, ?_⟩
  · obtain ⟨i, _, rfl⟩ := List.mem_map.1 hx
    refine (List.Pairwise.imp_of_mem ?_ (h.filter _))
    intro a b ha hb hab
    have h1 := (List.mem_filter.1 ha).2
    have h2 := (List.mem_filter.1 hb).2
    rw [beq_iff_eq] at h1 h2
    exact .inr ⟨by omega, hab⟩
  · rw [List.pairwise_map]
    refine List.Pairwise.imp_of_mem ?_ (List.pairwise_lt_range (n := 128))
    intro i j hi hj hij a ha b hb
    have h1 := (List.mem_filter.1 ha).2
    have h2 := (List.mem_filter.1 hb).2
    rw [beq_iff_eq] at h1 h2
    have := List.mem_range.1 hi
    have := List.mem_range.1 hj
    exact .inl (by omega)
theorem ltR_asymm {a b : Nat × Nat} (h : ltR a b) (h' : ltR b a) : False := by
  unfold ltR at h h'; omega
theorem sorted_one : ∀ (a b : List (Nat × Nat)), a.Perm b → a.Pairwise ltR → b.Pairwise ltR → a = b := by
  intro a
  induction a with
  | nil => intro b hp _ _; exact hp.nil_eq
  | cons x a ih =>
    intro b hp ha hb
    cases b with
    | nil => exact absurd hp.length_eq (by simp)
    | cons y b =>
      have hxy : x = y := by
        have h1 : x ∈ y :: b := hp.subset (List.mem_cons_self ..)
        have h2 : y ∈ x :: a := hp.symm.subset (List.mem_cons_self ..)
        rcases List.mem_cons.1 h1 with h1 | h1
        · exact h1
        · rcases List.mem_cons.1 h2 with h2 | h2
          · exact h2.symm
          · exact (ltR_asymm ((List.pairwise_cons.1 ha).1 y h2) ((List.pairwise_cons.1 hb).1 x h1)).elim
      subst hxy
      rw [ih b ((List.perm_cons x).1 hp) (List.pairwise_cons.1 ha).2 (List.pairwise_cons.1 hb).2]
theorem nodup_asc {l : List (Nat × Nat)} (h : l.Pairwise (fun a b => a.1 < b.1)) : l.Nodup :=
  List.Pairwise.imp (fun hab e => by rw [e] at hab; omega) h
theorem sorted_nodup {l : List (Nat × Nat)} (h : l.Pairwise ltR) : l.Nodup :=
  List.Pairwise.imp (fun hab e => by rw [e] at hab; exact ltR_asymm hab hab) h
theorem sortS_perm (l : List (Nat × Nat)) (h : ∀ r ∈ l, 1 ≤ r.2 ∧ r.2 ≤ 128) (ha : l.Pairwise (fun a b => a.1 < b.1)) : l.Perm (sortS l) :=
  (List.perm_ext_iff_of_nodup (nodup_asc ha) (sorted_nodup (sortS_sorted l ha))).2 (fun r => (mem_sortS l h r).symm)
theorem normS_asc (S : Nat → Bool) : (normS S).Pairwise (fun a b => a.1 < b.1) :=
  List.Pairwise.imp (fun h => by omega) (normTo_asc S 128).1
theorem normS_cnt (S : Nat → Bool) : ∀ r ∈ normS S, 1 ≤ r.2 ∧ r.2 ≤ 128 := fun r hr => ⟨(normTo_asc S 128).2 r hr, by have := normS_bd S r hr; omega⟩
/-- A sorted order of the runs of a set is the one that is meant. -/
theorem sort_is (S : Nat → Bool) (d : List (Nat × Nat)) (hp : d.Perm (normS S)) (hs : ∀ i j (hi : i < d.length) (hj : j < d.length), i < j → ¬ ltR d[j] d[i]) : d = sortS (normS S) := by
  refine sorted_one _ _ (hp.trans (sortS_perm _ (normS_cnt S) (normS_asc S))) ?_ (sortS_sorted _ (normS_asc S))
  have hn : d.Nodup := (hp.nodup_iff).2 (nodup_asc (normS_asc S))
  have hd : d.Pairwise (fun a b => a.1 ≠ b.1) := by
    have h1 : (normS S).Pairwise (fun a b => a.1 ≠ b.1) := List.Pairwise.imp (fun h => by omega) (normS_asc S)
    exact (hp.pairwise_iff (fun {a b} h e => h e.symm)).2 h1
  rw [List.pairwise_iff_getElem] at hd ⊢
  intro i j hi hj hij
  have h1 := hd i j hi hj hij
  have h2 := hs i j hi hj hij
  unfold ltR at h2 ⊢
  omega
end Go.Proofs.YtnlaogneceanoaaGreat
namespace Go.Proofs.YtnlaogneceanoaaGreat
set_option linter.unusedVariables false
set_option linter.unusedSimpArgs false
set_option linter.unusedSectionVars false
open Go.RowKit
/-- A run of a list of runs with natural numbers, in memory. -/
theorem runs_nat {w : World} {B : Nat} {A : Option Addr} {N : List (Nat × Nat)} (h : RunsAt w B A (ints N)) {k : Nat} (hk : k < N.length) :
    ∃ b off, A = some ⟨b, off, none⟩ ∧ b < B ∧ w.cell? ⟨b, off + k * 2, none⟩ = some (.int .i64 (N[k].1 : Int)) ∧ w.cell? ⟨b, off + k * 2 + 1, none⟩ = some (.int .i64 (N[k].2 : Int)) := by
  obtain ⟨b, off, f, c, e, hb, hlk, _, x0, x1⟩ := h.at_ (k := k) (by rw [ints_len]; exact hk)
  have hlk' : (ints N)[k]'(by rw [ints_len]; exact hk) = ((N[k].1 : Int), (N[k].2 : Int)) := by simp [ints]
  rw [hlk'] at hlk
  injection hlk with h1 h2
  exact ⟨b, off, e, hb, by rw [h1]; exact x0, by rw [h2]; exact x1⟩
theorem own_runs2 {w : World} {base : Nat} {v : Value} {l : List (Nat × Nat)} (h : OwnL w base 65 2 v (l.map rowN)) (hb : ∀ r ∈ l, r.1 + r.2 ≤ 1000000) :
    ∃ A c, v = .slice A l.length c ∧ RunsAt w w.heap.size A (ints l) ∧ l.length ≤ c ∧ c ≤ 9223372036854775807 ∧ ∀ b off, A = some ⟨b, off, none⟩ → base ≤ b ∧ b < w.heap.size := by
  obtain ⟨A, c, hv, h1, h2, hl⟩ := h.listAt
  rw [List.length_map] at hv h1
  refine ⟨A, c, hv, ⟨?_, by rw [ints_rows]; exact hl⟩, h1, h2, ?_⟩
  · intro r hr
    obtain ⟨x, hx, rfl⟩ := List.mem_map.1 hr
    have := hb x hx
    unfold okRun
    simp only []
    omega
  · intro b off hA
    rcases h.form with ⟨hv', _⟩ | ⟨g, cap, hv', hg, hg2, _⟩
    · rw [hv] at hv'
      injection hv' with hv'
      rw [hA] at hv'; cases hv'
    · rw [hv] at hv'
      injection hv' with hv'
      rw [hA] at hv'
      injection hv' with hv'
      injection hv' with hv'
      omega
theorem RunsAt.turned {S : Nat → Prop} {w w' : World} {B : Nat} {A : Option Addr} {l : List (Int × Int)} (h : RunsAt w B A l) (hB : B ≤ w.heap.size) (ht : Turned S w w') (hS : ∀ b off, A = some ⟨b, off, none⟩ → ¬ S b) : RunsAt w' B A l :=
  ⟨h.1, fun hp => by
    obtain ⟨b, off, e, hb, hc⟩ := h.2 hp
    exact ⟨b, off, e, hb, fun j cs hj i v hi => by rw [ht.cellEq _ _ (by omega) (hS b off e)]; exact hc j cs hj i v hi⟩⟩
def BestR (w : World) (d : (Int × Int) × Bool) (e : Ending) (w' : World) : Prop := e = .returned (.tuple #[.agg #[.int .i64 d.1.1, .int .i64 d.1.2], .bool d.2]) ∧ Grew w w'
section
variable (A : Option Addr) (c : Nat) (l : List (Int × Int)) (w : World) (B : Nat) (hB : B ≤ w.heap.size) (hl : l.length ≤ 1000000) (hr : RunsAt w B A l) (n : Int) (n0 : -9223372036854775808 ≤ n) (n1 : n ≤ 9223372036854775807)
include hB hl hr n0 n1
set_option maxRecDepth 100000 in
set_option maxHeartbeats 4000000 in
theorem best_any : Calls Tryz.prog 139 #[.slice A l.length c, .int .i64 n] w (BestR w (bestS (memS l) n)) := by
  by_cases hn : n < 1
  · have HE := Lib.hid (show bestS (memS l) n = ((0, 0), false) from by unfold bestS; rw [if_pos (.inl hn)])
    go_enter Tryz.func139, Tryz.ntmps139
    go_wp2_with fail
    refine bodyPost_ret (by first | (simp [*, results, Tryz.results139, go_sem]; rfl) | simp [*, results, Tryz.results139, go_sem]) rfl ?_
    rw [HE.out]
    exact ⟨rfl, by (repeat' first | (with_reducible exact Grew.refl _) | (with_reducible assumption) | (with_reducible refine Grew.alloc ?_ _) | (with_reducible refine Grew.drew ?_) | (with_reducible refine Grew.drewN ?_ _) | (with_reducible refine Grew.setRow ?_ (by first | (simp; done) | (simp; omega) | omega) _) | (with_reducible refine Grew.setCell ?_ (by first | (simp; done) | (simp; omega) | omega) _) | ((with_reducible apply Grew.trans); rotate_left; (with_reducible assumption)) | ((with_reducible apply Grew.turn); rotate_left; (with_reducible assumption); (focus (intro i hi; first | omega | (simp at hi; omega)))) | fail)⟩
  have HS := Lib.hid (show bestS (memS l) n = if n < 1 ∨ (bestF n (normS (memS l))).2 = 0 then ((0, 0), false) else ((((bestF n (normS (memS l))).1 : Int), n), true) from rfl)
  have hC := fun w' (g : Grew w w') => normal_any A c l w' B (Nat.le_trans hB g.size) hl (hr.keep hB g)
  have hbd := normS_bd (memS l)
  have hNl := normS_len (memS l)
  generalize normS (memS l) = N at *
  have HC := Lib.hid hC
  have HBD := Lib.hid hbd
  have HFB := Lib.hid (fun k => bestF_bd n (N.take k) 128 (fun r hr => hbd r (List.mem_of_mem_take hr)))
  clear hr hC hbd
  go_enter Tryz.func139, Tryz.ntmps139
  go_wp2_with fail
  refine (HC.out _ (by (repeat' first | (with_reducible exact Grew.refl _) | (with_reducible assumption) | (with_reducible refine Grew.alloc ?_ _) | (with_reducible refine Grew.drew ?_) | (with_reducible refine Grew.drewN ?_ _) | (with_reducible refine Grew.setRow ?_ (by first | (simp; done) | (simp; omega) | omega) _) | (with_reducible refine Grew.setCell ?_ (by first | (simp; done) | (simp; omega) | omega) _) | ((with_reducible apply Grew.trans); rotate_left; (with_reducible assumption)) | ((with_reducible apply Grew.turn); rotate_left; (with_reducible assumption); (focus (intro i hi; first | omega | (simp at hi; omega)))) | fail))).mono ?_
  rintro e w1 ⟨v, rfl, hown, g1⟩
  have HB4 := ((Blk.new w 65 #[.int .i64 0, .int .i64 0] rfl).alloc (.cells #[.int .i64 0, .int .i64 0] 65)).grew g1
  have HB6 := (Blk.new (w.alloc (.cells #[.int .i64 0, .int .i64 0] 65)) 65 #[.int .i64 0, .int .i64 0] (n := w.heap.size + 1) (by simp)).grew g1
  have hG : Grew w w1 := (((Grew.refl w).alloc _).alloc _).trans g1
  obtain ⟨A', c', hv, hr', _, _, hA'⟩ := own_runs2 hown (fun r hr => Nat.le_trans (HBD.out r hr) (by omega))
  subst hv
  have HR := Lib.hid hr'
  have HA := Lib.hid (show ∀ b off, A' = some ⟨b, off, none⟩ → ¬ b = w.heap.size + 1 from fun b off e => by have := (hA' b off e).1; simp at this; omega)
  have HB4' := Lib.hid HB4
  clear hown hr' HC g1 hA' HB4
  go_wp2_with fail
  go_loopg [16] N.length (fun gk i wr => ∃ k : Nat, k ≤ N.length ∧ gk = N.length - k ∧ i = .int .i64 k ∧ Blk wr (w.heap.size + 1) 65 #[.int .i64 ((bestF n (N.take k)).1 : Int), .int .i64 ((bestF n (N.take k)).2 : Int)] ∧ Turned (fun i => i = w.heap.size + 1) w1 wr)
  case atStart => exact ⟨0, by omega, by omega, rfl, HB6, Turned.refl _ _⟩
  case round =>
    obtain ⟨k, hk, hgk, rfl, hb6, ht⟩ := hrel
    have HGK := Lib.hid hgk
    have HT := Lib.hid ht
    have hb4 := HB4'.out.turned ht (by omega)
    clear hgk
    have hfb := HFB.out k
    by_cases hlt : k < N.length
    · obtain ⟨b, off, rfl, hb, x0, x1⟩ := runs_nat (HR.out.turned (Nat.le_refl _) ht HA.out) hlt
      have hbs : b < wr.heap.size := by have := ht.size; omega
      have hnb : ¬ b = w.heap.size + 1 := HA.out b off rfl
      have hrb := HBD.out _ (List.getElem_mem hlt)
      have HST := Lib.hid (bestF_snoc n N k hlt)
      have y0 := hb6.cell 0
      have y1 := hb6.cell 1
      have yf0 := hb6.frozen 0
      have yf1 := hb6.frozen 1
      have hlb := hb6.lt
      have hgs := hG.size
      generalize N[k] = r at *
      obtain ⟨rf, rc⟩ := r
      generalize bestF n (N.take k) = bb at *
      obtain ⟨bf, bc⟩ := bb
      simp only at x0 x1 y0 y1 hrb hfb
      clear ht
      have HR2 := Lib.hid hb6
      by_cases h1 : n ≤ (rc : Int)
      · by_cases h2 : bc = 0
        · have h2b : (((bc : Nat) : Int) == 0) = true := beq_iff_eq.2 (by omega)
          have HN := Lib.hid (show bestF n (N.take (k + 1)) = (rf, rc) from by rw [HST.out]; unfold bestStep; rw [if_pos ⟨h1, .inl h2⟩])
          clear h2
          go_wp2_with fail
          go_roundg (N.length - (k + 1))
          case measure => rw [HGK.out]; omega
          case rel => exact ⟨k + 1, by omega, by omega, by go_num, by rw [HN.out]; have := HR2.out; (apply Blk.conv; (· (repeat' first | (with_reducible assumption) | (with_reducible apply Blk.setRow) | ((with_reducible apply Blk.farRow); rotate_left; (focus (first | (simp; done) | (simp; omega) | omega))) | (with_reducible apply Blk.drew) | (with_reducible apply Blk.drewN) | (with_reducible apply Blk.set_) | (with_reducible exact Blk.new _ _ _ (by first | rfl | (simp; done) | (simp; omega))) | (with_reducible apply Blk.alloc) | ((with_reducible apply Blk.far); rotate_left; (focus (first | (simp; done) | (simp; omega) | omega))) | ((with_reducible apply Blk.grew); rotate_left; (with_reducible assumption)) | ((with_reducible apply Blk.turned); rotate_left; (with_reducible assumption); (focus (first | (simp; done) | (simp; omega) | omega))) | fail)); (· rfl)), by have := HT.out; (repeat' first | (with_reducible exact Turned.refl _ _) | (with_reducible assumption) | (with_reducible refine Turned.alloc ?_ _) | (with_reducible refine Turned.drew ?_) | (with_reducible refine Turned.drewN ?_ _) | (with_reducible refine Turned.setRow ?_ (by first | (simp; done) | (simp; omega) | omega) _) | (with_reducible refine Turned.setCell ?_ (by first | (simp; done) | (simp; omega) | omega) _) | ((with_reducible apply Turned.andGrew); rotate_left; (with_reducible assumption)) | ((with_reducible apply Turned.trans); rotate_left; (with_reducible assumption)) | fail)⟩
        · have h2b : (((bc : Nat) : Int) == 0) = false := beq_eq_false_iff_ne.2 (by omega)
          by_cases h3 : rc < bc
          · have HN := Lib.hid (show bestF n (N.take (k + 1)) = (rf, rc) from by rw [HST.out]; unfold bestStep; rw [if_pos ⟨h1, .inr h3⟩])
            clear h2
            go_wp2_with fail
            go_roundg (N.length - (k + 1))
            case measure => rw [HGK.out]; omega
            case rel => exact ⟨k + 1, by omega, by omega, by go_num, by rw [HN.out]; have := HR2.out; (apply Blk.conv; (· (repeat' first | (with_reducible assumption) | (with_reducible apply Blk.setRow) | ((with_reducible apply Blk.farRow); rotate_left; (focus (first | (simp; done) | (simp; omega) | omega))) | (with_reducible apply Blk.drew) | (with_reducible apply Blk.drewN) | (with_reducible apply Blk.set_) | (with_reducible exact Blk.new _ _ _ (by first | rfl | (simp; done) | (simp; omega))) | (with_reducible apply Blk.alloc) | ((with_reducible apply Blk.far); rotate_left; (focus (first | (simp; done) | (simp; omega) | omega))) | ((with_reducible apply Blk.grew); rotate_left; (with_reducible assumption)) | ((with_reducible apply Blk.turned); rotate_left; (with_reducible assumption); (focus (first | (simp; done) | (simp; omega) | omega))) | fail)); (· rfl)), by have := HT.out; (repeat' first | (with_reducible exact Turned.refl _ _) | (with_reducible assumption) | (with_reducible refine Turned.alloc ?_ _) | (with_reducible refine Turned.drew ?_) | (with_reducible refine Turned.drewN ?_ _) | (with_reducible refine Turned.setRow ?_ (by first | (simp; done) | (simp; omega) | omega) _) | (with_reducible refine Turned.setCell ?_ (by first | (simp; done) | (simp; omega) | omega) _) | ((with_reducible apply Turned.andGrew); rotate_left; (with_reducible assumption)) | ((with_reducible apply Turned.trans); rotate_left; (with_reducible assumption)) | fail)⟩
          · have HN := Lib.hid (show bestF n (N.take (k + 1)) = (bf, bc) from by rw [HST.out]; unfold bestStep; rw [if_neg (fun h => h.2.elim h2 h3)])
            clear h2
            go_wp2_with fail
            go_roundg (N.length - (k + 1))
            case measure => rw [HGK.out]; omega
            case rel => exact ⟨k + 1, by omega, by omega, by go_num, by rw [HN.out]; have := HR2.out; (apply Blk.conv; (· (repeat' first | (with_reducible assumption) | (with_reducible apply Blk.setRow) | ((with_reducible apply Blk.farRow); rotate_left; (focus (first | (simp; done) | (simp; omega) | omega))) | (with_reducible apply Blk.drew) | (with_reducible apply Blk.drewN) | (with_reducible apply Blk.set_) | (with_reducible exact Blk.new _ _ _ (by first | rfl | (simp; done) | (simp; omega))) | (with_reducible apply Blk.alloc) | ((with_reducible apply Blk.far); rotate_left; (focus (first | (simp; done) | (simp; omega) | omega))) | ((with_reducible apply Blk.grew); rotate_left; (with_reducible assumption)) | ((with_reducible apply Blk.turned); rotate_left; (with_reducible assumption); (focus (first | (simp; done) | (simp; omega) | omega))) | fail)); (· rfl)), by have := HT.out; (repeat' first | (with_reducible exact Turned.refl _ _) | (with_reducible assumption) | (with_reducible refine Turned.alloc ?_ _) | (with_reducible refine Turned.drew ?_) | (with_reducible refine Turned.drewN ?_ _) | (with_reducible refine Turned.setRow ?_ (by first | (simp; done) | (simp; omega) | omega) _) | (with_reducible refine Turned.setCell ?_ (by first | (simp; done) | (simp; omega) | omega) _) | ((with_reducible apply Turned.andGrew); rotate_left; (with_reducible assumption)) | ((with_reducible apply Turned.trans); rotate_left; (with_reducible assumption)) | fail)⟩
      · have HN := Lib.hid (show bestF n (N.take (k + 1)) = (bf, bc) from by rw [HST.out]; unfold bestStep; rw [if_neg (fun h => h1 h.1)])
        go_wp2_with fail
        go_roundg (N.length - (k + 1))
        case measure => rw [HGK.out]; omega
        case rel => exact ⟨k + 1, by omega, by omega, by go_num, by rw [HN.out]; have := HR2.out; (apply Blk.conv; (· (repeat' first | (with_reducible assumption) | (with_reducible apply Blk.setRow) | ((with_reducible apply Blk.farRow); rotate_left; (focus (first | (simp; done) | (simp; omega) | omega))) | (with_reducible apply Blk.drew) | (with_reducible apply Blk.drewN) | (with_reducible apply Blk.set_) | (with_reducible exact Blk.new _ _ _ (by first | rfl | (simp; done) | (simp; omega))) | (with_reducible apply Blk.alloc) | ((with_reducible apply Blk.far); rotate_left; (focus (first | (simp; done) | (simp; omega) | omega))) | ((with_reducible apply Blk.grew); rotate_left; (with_reducible assumption)) | ((with_reducible apply Blk.turned); rotate_left; (with_reducible assumption); (focus (first | (simp; done) | (simp; omega) | omega))) | fail)); (· rfl)), by have := HT.out; (repeat' first | (with_reducible exact Turned.refl _ _) | (with_reducible assumption) | (with_reducible refine Turned.alloc ?_ _) | (with_reducible refine Turned.drew ?_) | (with_reducible refine Turned.drewN ?_ _) | (with_reducible refine Turned.setRow ?_ (by first | (simp; done) | (simp; omega) | omega) _) | (with_reducible refine Turned.setCell ?_ (by first | (simp; done) | (simp; omega) | omega) _) | ((with_reducible apply Turned.andGrew); rotate_left; (with_reducible assumption)) | ((with_reducible apply Turned.trans); rotate_left; (with_reducible assumption)) | fail)⟩
    · obtain rfl : k = N.length := by omega
      rw [List.take_length] at hb6 hfb
      have hGe : Grew w wr := hG.turn ht (fun i hi => by omega)
      have HGE := Lib.hid hGe
      have y0 := hb6.cell 0
      have y1 := hb6.cell 1
      have hlb := hb6.lt
      have z0 := hb4.cell 0
      have z1 := hb4.cell 1
      have zf0 := hb4.frozen 0
      have zf1 := hb4.frozen 1
      have hlb4 := hb4.lt
      clear ht hGe
      generalize bestF n N = bb at *
      obtain ⟨bf, bc⟩ := bb
      simp only at y0 y1 hfb
      by_cases h2 : bc = 0
      · have h2b : (((bc : Nat) : Int) == 0) = true := beq_iff_eq.2 (by omega)
        have HE := Lib.hid (show bestS (memS l) n = ((0, 0), false) from by rw [HS.out]; exact if_pos (.inr h2))
        clear h2
        go_wp2_with fail
        refine bodyPost_ret (by first | (simp [*, results, Tryz.results139, go_sem]; rfl) | simp [*, results, Tryz.results139, go_sem]) rfl ?_
        rw [HE.out]
        exact ⟨rfl, by have := HGE.out; (repeat' first | (with_reducible exact Grew.refl _) | (with_reducible assumption) | (with_reducible refine Grew.alloc ?_ _) | (with_reducible refine Grew.drew ?_) | (with_reducible refine Grew.drewN ?_ _) | (with_reducible refine Grew.setRow ?_ (by first | (simp; done) | (simp; omega) | omega) _) | (with_reducible refine Grew.setCell ?_ (by first | (simp; done) | (simp; omega) | omega) _) | ((with_reducible apply Grew.trans); rotate_left; (with_reducible assumption)) | ((with_reducible apply Grew.turn); rotate_left; (with_reducible assumption); (focus (intro i hi; first | omega | (simp at hi; omega)))) | fail)⟩
      · have h2b : (((bc : Nat) : Int) == 0) = false := beq_eq_false_iff_ne.2 (by omega)
        have HE := Lib.hid (show bestS (memS l) n = (((bf : Int), n), true) from by rw [HS.out]; exact if_neg (fun h => h.elim (fun h => by omega) h2))
        clear h2
        go_wp2_with fail
        refine bodyPost_ret (by first | (simp [*, results, Tryz.results139, go_sem]; rfl) | simp [*, results, Tryz.results139, go_sem]) rfl ?_
        rw [HE.out]
        exact ⟨rfl, by have := HGE.out; (repeat' first | (with_reducible exact Grew.refl _) | (with_reducible assumption) | (with_reducible refine Grew.alloc ?_ _) | (with_reducible refine Grew.drew ?_) | (with_reducible refine Grew.drewN ?_ _) | (with_reducible refine Grew.setRow ?_ (by first | (simp; done) | (simp; omega) | omega) _) | (with_reducible refine Grew.setCell ?_ (by first | (simp; done) | (simp; omega) | omega) _) | ((with_reducible apply Grew.trans); rotate_left; (with_reducible assumption)) | ((with_reducible apply Grew.turn); rotate_left; (with_reducible assumption); (focus (intro i hi; first | omega | (simp at hi; omega)))) | fail)⟩
end
end Go.Proofs.YtnlaogneceanoaaGreat
namespace Go.Proofs.YtnlaogneceanoaaGreat
set_option linter.unusedVariables false
set_option linter.unusedSimpArgs false
set_option linter.unusedSectionVars false
open Go.Shelf Go.RowKit Go.Lib
set_option maxRecDepth 100000
def sortIv_ren : Go.Shelf.Ren := ⟨fun | 6 => 141 | 15 => 111 | 14 => 170 | 28 => 156 | 29 => 157 | 20 => 184 | 21 => 185 | 22 => 186 | 23 => 187 | 24 => 188 | 25 => 189 | 26 => 190 | 27 => 191 | 46 => 193 | 47 => 173 | 48 => 174 | 49 => 194 | 50 => 195 | 57 => 196 | n => n, fun | 22 => 29 | 24 => 65 | 25 => 143 | 3 => 3 | 39 => 119 | 0 => 0 | 53 => 160 | 55 => 139 | 4 => 4 | 46 => 154 | 45 => 153 | 50 => 62 | 5 => 5 | 9 => 9 | 66 => 182 | 70 => 185 | 76 => 199 | 77 => 200 | n => n, fun | n => n⟩
theorem sortIv : Go.Proofs.SlLaysF0.n6 Tryz.prog sortIv_ren := {
  mixed := by kernel_rfl
  f6 := ⟨Tryz.f141.name, by decide, Tryz.func141.trans (congrArg some (by kernel_rfl))⟩
  f14 := ⟨Tryz.f170.name, by decide, Tryz.func170.trans (congrArg some (by kernel_rfl))⟩
  f15 := Tryz.func111.trans (congrArg some (by kernel_rfl))
  f20 := ⟨Tryz.f184.name, by decide, Tryz.func184.trans (congrArg some (by kernel_rfl))⟩
  f21 := ⟨Tryz.f185.name, by decide, Tryz.func185.trans (congrArg some (by kernel_rfl))⟩
  f22 := ⟨Tryz.f186.name, by decide, Tryz.func186.trans (congrArg some (by kernel_rfl))⟩
  f23 := ⟨Tryz.f187.name, by decide, Tryz.func187.trans (congrArg some (by kernel_rfl))⟩
  f24 := ⟨Tryz.f188.name, by decide, Tryz.func188.trans (congrArg some (by kernel_rfl))⟩
  f25 := ⟨Tryz.f189.name, by decide, Tryz.func189.trans (congrArg some (by kernel_rfl))⟩
  f26 := ⟨Tryz.f190.name, by decide, Tryz.func190.trans (congrArg some (by kernel_rfl))⟩
  f27 := ⟨Tryz.f191.name, by decide, Tryz.func191.trans (congrArg some (by kernel_rfl))⟩
  f28 := Tryz.func156.trans (congrArg some (by kernel_rfl))
  f29 := Tryz.func157.trans (congrArg some (by kernel_rfl))
  f46 := ⟨Tryz.f193.name, by decide, Tryz.func193.trans (congrArg some (by kernel_rfl))⟩
  f47 := Tryz.func173.trans (congrArg some (by kernel_rfl))
  f48 := Tryz.func174.trans (congrArg some (by kernel_rfl))
  f49 := ⟨Tryz.f194.name, by decide, Tryz.func194.trans (congrArg some (by kernel_rfl))⟩
  f50 := ⟨Tryz.f195.name, by decide, Tryz.func195.trans (congrArg some (by kernel_rfl))⟩
  f57 := ⟨Tryz.f196.name, by decide, Tryz.func196.trans (congrArg some (by kernel_rfl))⟩
  t0 := Tryz.underlying0
  a0 := Tryz.isAgg0
  z0 := Tryz.sizeOf0
  v0 := Tryz.zeroValue0
  t3 := Tryz.underlying3
  a3 := Tryz.isAgg3
  z3 := Tryz.sizeOf3
  v3 := Tryz.zeroValue3
  t4 := Tryz.underlying4
  a4 := Tryz.isAgg4
  z4 := Tryz.sizeOf4
  v4 := Tryz.zeroValue4
  t5 := Tryz.underlying5
  a5 := Tryz.isAgg5
  z5 := Tryz.sizeOf5
  v5 := Tryz.zeroValue5
  t9 := Tryz.underlying9
  a9 := Tryz.isAgg9
  z9 := Tryz.sizeOf9
  v9 := Tryz.zeroValue9
  t22 := Tryz.underlying29
  a22 := Tryz.isAgg29
  z22 := Tryz.sizeOf29
  v22 := Tryz.zeroValue29
  t25 := Tryz.underlying143
  a25 := Tryz.isAgg143
  z25 := Tryz.sizeOf143
  v25 := Tryz.zeroValue143
  t39 := Tryz.underlying119
  a39 := Tryz.isAgg119
  z39 := Tryz.sizeOf119
  v39 := Tryz.zeroValue119
  t45 := Tryz.underlying153
  a45 := Tryz.isAgg153
  z45 := Tryz.sizeOf153
  v45 := Tryz.zeroValue153
  t46 := Tryz.underlying154
  a46 := Tryz.isAgg154
  z46 := Tryz.sizeOf154
  v46 := Tryz.zeroValue154
  t50 := Tryz.underlying62
  a50 := Tryz.isAgg62
  z50 := Tryz.sizeOf62
  v50 := Tryz.zeroValue62
  t53 := Tryz.underlying160
  a53 := Tryz.isAgg160
  z53 := Tryz.sizeOf160
  v53 := Tryz.zeroValue160
  t55 := Tryz.underlying139
  a55 := Tryz.isAgg139
  z55 := Tryz.sizeOf139
  v55 := Tryz.zeroValue139
  t66 := Tryz.underlying182
  a66 := Tryz.isAgg182
  z66 := Tryz.sizeOf182
  v66 := Tryz.zeroValue182
  t70 := Tryz.underlying185
  a70 := Tryz.isAgg185
  z70 := Tryz.sizeOf185
  v70 := Tryz.zeroValue185
  t76 := Tryz.underlying199
  a76 := Tryz.isAgg199
  z76 := Tryz.sizeOf199
  v76 := Tryz.zeroValue199
  t77 := Tryz.underlying200
  a77 := Tryz.isAgg200
  z77 := Tryz.sizeOf200
  v77 := Tryz.zeroValue200
  }
end Go.Proofs.YtnlaogneceanoaaGreat
namespace Go.Proofs.YtnlaogneceanoaaGreat
set_option linter.unusedVariables false
set_option linter.unusedSimpArgs false
set_option linter.unusedSectionVars false
open Go.RowKit Go.Shelf Go.Lib
attribute [local go_sem ↓] Go.wp_at_zero Go.wp_at_succ
def FR : Type := Fin 256 × Fin 256
instance : Inhabited FR := ⟨(⟨0, by decide⟩, ⟨0, by decide⟩)⟩
def toF (r : Nat × Nat) : FR := (⟨r.1 % 256, Nat.mod_lt _ (by decide)⟩, ⟨r.2 % 256, Nat.mod_lt _ (by decide)⟩)
def ofF (x : FR) : Nat × Nat := (x.1.val, x.2.val)
theorem ofF_toF (r : Nat × Nat) (h : r.1 + r.2 ≤ 128) : ofF (toF r) = r := by
  obtain ⟨a, b⟩ := r
  simp only at h
  show (a % 256, b % 256) = (a, b)
  rw [Nat.mod_eq_of_lt (by omega), Nat.mod_eq_of_lt (by omega)]
def encRF (x : FR) : List Value := rowN (ofF x)
def cmpF (x y : FR) : Int := if (ofF x).2 = (ofF y).2 then ((ofF x).1 : Int) - ((ofF y).1 : Int) else ((ofF y).2 : Int) - ((ofF x).2 : Int)
theorem ltF (x y : FR) : Go.Proofs.ltOf cmpF x y = true ↔ ltR (ofF x) (ofF y) := by
  unfold Go.Proofs.ltOf cmpF ltR
  rw [decide_eq_true_eq]
  split <;> omega
theorem sworder : Go.Sort.SWO (Go.Proofs.ltOf cmpF) where
  irrefl x := by
    cases h : Go.Proofs.ltOf cmpF x x with
    | false => rfl
    | true => exact (ltR_asymm ((ltF x x).1 h) ((ltF x x).1 h)).elim
  trans x y z h1 h2 := by
    rw [ltF] at h1 h2 ⊢
    unfold ltR at *
    omega
  ntrans x y z h1 h2 := by
    rw [← Bool.not_eq_true] at h1 h2 ⊢
    rw [ltF] at h1 h2 ⊢
    unfold ltR at *
    omega
set_option maxRecDepth 100000 in
set_option maxHeartbeats 1000000 in
theorem bigger_any (x y : FR) (W : World) : Calls Tryz.prog 140 #[.agg (encRF x).toArray, .agg (encRF y).toArray] W fun e w' => e = .returned (.int .i64 (cmpF x y)) ∧ ∃ q os', w' = Go.Sort.grow (W.drewN q) os' := by
  have hx1 := x.1.isLt
  have hx2 := x.2.isLt
  have hy1 := y.1.isLt
  have hy2 := y.2.isLt
  show Calls Tryz.prog 140 #[.agg #[.int .i64 (x.1.val : Int), .int .i64 (x.2.val : Int)], .agg #[.int .i64 (y.1.val : Int), .int .i64 (y.2.val : Int)]] W _
  have HC := Lib.hid (show cmpF x y = if x.2.val = y.2.val then ((x.1.val : Int)) - (y.1.val : Int) else (y.2.val : Int) - (x.2.val : Int) from rfl)
  generalize x.1.val = a at *
  generalize x.2.val = b at *
  generalize y.1.val = c at *
  generalize y.2.val = d at *
  by_cases h : b = d
  · have hb : ((b : Int) != (d : Int)) = false := by rw [bne_eq_false_iff_eq]; omega
    have HE := Lib.hid (show cmpF x y = (a : Int) - (c : Int) from by rw [HC.out, if_pos h])
    clear h
    go_enter Tryz.func140, Tryz.ntmps140
    go_wp2_with fail
    go_ret
    exact ⟨ret_int (by rw [HE.out]), 0, _, by rw [Go.Sort.alloc_eq_grow, Go.Sort.alloc_eq_grow, Go.Sort.grow_grow]; rfl⟩
  · have hb : ((b : Int) != (d : Int)) = true := by rw [bne_iff_ne]; omega
    have HE := Lib.hid (show cmpF x y = (d : Int) - (b : Int) from by rw [HC.out, if_neg h])
    clear h
    go_enter Tryz.func140, Tryz.ntmps140
    go_wp2_with fail
    go_ret
    exact ⟨ret_int (by rw [HE.out]), 0, _, by rw [Go.Sort.alloc_eq_grow, Go.Sort.alloc_eq_grow, Go.Sort.grow_grow]; rfl⟩
theorem sorted_turned (w : World) (g m : Nat) (d : Array FR) (os : Array Obj) : Turned (fun i => i = g) w (Go.Proofs.sortWorldK encRF 2 w g 0 m d os) := by
  refine ⟨rfl, rfl, rfl, ?_, fun k hk hs => ?_⟩
  · exact Go.Proofs.size_sortWorldK_c encRF 2 w g 0 m d os
  · unfold Go.Proofs.sortWorldK Go.Sort.grow Go.Sort.putRowK Go.Sort.putRow Go.Sort.mapBlock Go.Sort.ahead
    show (w.heap.modify g _ ++ os)[k]? = w.heap[k]?
    rw [Array.getElem?_append_left (by rw [Array.size_modify]; exact hk), Array.getElem?_modify, if_neg (fun e => hs e.symm)]
theorem whole_extract (d : Array FR) : (d.extract 0 d.size).toList = d.toList := by rw [Array.extract_size]
theorem at_idx (d : Array FR) (i : Nat) (h : i < d.size) : d[i]! = d.toList[i]'(by rw [Array.length_toList]; exact h) := by
  rw [getElem!_pos d i h, Array.getElem_toList]
theorem holds_own {w : World} {base g cap : Nat} {N : List (Nat × Nat)} (h : OwnL w base 65 2 (.slice (some ⟨g, 0, none⟩) N.length cap) (N.map rowN)) (hb : ∀ r ∈ N, r.1 + r.2 ≤ 128) : Go.Sort.HoldsK encRF 2 w g 0 (N.map toF).toArray := by
  intro t ht
  have ht' : t < N.length * 2 := by simpa using ht
  have hj : t / 2 < N.length := by omega
  rw [Go.Sort.get_flatK _ _ _ _ (by simpa using ht'), Nat.zero_add]
  have hel : ((N.map toF).toArray)[t / 2]! = toF N[t / 2] := by
    rw [getElem!_pos _ _ (by simpa using hj)]
    simp
  have hrow : (N.map rowN)[t / 2]? = some (rowN N[t / 2]) := by rw [List.getElem?_map, List.getElem?_eq_getElem hj]; rfl
  have he : encRF (toF N[t / 2]) = rowN N[t / 2] := by unfold encRF; rw [ofF_toF _ (hb _ (List.getElem_mem hj))]
  rw [hel, he]
  refine ⟨?_, h.frozen t⟩
  have hm : t = t / 2 * 2 + t % 2 := by omega
  have hlt : t % 2 < 2 := Nat.mod_lt _ (by decide)
  have hu : (rowN N[t / 2])[t % 2]? = some ((rowN N[t / 2])[t % 2]!) := by
    have hlen : (rowN N[t / 2]).length = 2 := rfl
    rw [List.getElem?_eq_getElem (by omega), getElem!_pos _ _ (by omega)]
  have := h.cell (j := t / 2) (i := t % 2) hrow hu
  rwa [← hm] at this
theorem runs_held {w : World} {g : Nat} {d : Array FR} {M : List (Nat × Nat)} (h : Go.Sort.HoldsK encRF 2 w g 0 d) (hd : d.toList.map ofF = M) (hg : g < w.heap.size) : RunsAt w w.heap.size (some ⟨g, 0, none⟩) (ints M) := by
  subst hd
  refine ⟨?_, fun _ => ⟨g, 0, rfl, hg, fun j cs hj i v hi => ?_⟩⟩
  · intro r hr
    obtain ⟨x, hx, rfl⟩ := List.mem_map.1 hr
    obtain ⟨y, hy, rfl⟩ := List.mem_map.1 hx
    have h1 := y.1.isLt
    have h2 := y.2.isLt
    show okRun ((y.1.val : Int), (y.2.val : Int))
    unfold okRun
    simp only
    omega
  · rw [ints_rows, List.map_map] at hj
    rw [List.getElem?_map] at hj
    cases hx : d.toList[j]? with
    | none => rw [hx] at hj; cases hj
    | some x =>
      rw [hx] at hj
      have hjl : j < d.toList.length := (List.getElem?_eq_some_iff.1 hx).1
      have hjs : j < d.size := by rw [← Array.length_toList]; exact hjl
      injection hj with hj
      have hcs : cs = encRF x := hj.symm
      have hil : i < cs.length := (List.getElem?_eq_some_iff.1 hi).1
      have hi2 : i < 2 := by rw [hcs] at hil; exact hil
      have hc := (h.cell (i := j) (c := i) hjs hi2).1
      have hxe : d[j]! = x := by
        rw [at_idx d j hjs]
        exact (List.getElem?_eq_some_iff.1 hx).2
      rw [hxe, ← hcs, getElem!_pos cs i hil] at hc
      rw [hc, (List.getElem?_eq_some_iff.1 hi).2]
set_option maxRecDepth 100000 in
set_option maxHeartbeats 1000000 in
theorem sort_any (g cap : Nat) (S : Nat → Bool) (w : World) (base : Nat) (hown : OwnL w base 65 2 (.slice (some ⟨g, 0, none⟩) (normS S).length cap) ((normS S).map rowN)) :
    Calls Tryz.prog 141 #[.slice (some ⟨g, 0, none⟩) (normS S).length cap, .func (.func 140) #[] #[]] w fun e w' => e = .returned (.tuple #[]) ∧ Turned (fun i => i = g) w w' ∧ RunsAt w' w'.heap.size (some ⟨g, 0, none⟩) (ints (sortS (normS S))) := by
  have hg : g < w.heap.size := by
    rcases hown.form with ⟨h, _⟩ | ⟨g', _, h, _, h2, _⟩
    · cases h
    · injection h with h
      injection h with h
      injection h with h
      omega
  have hbd := normS_bd S
  have hlen := normS_len S
  have hH := holds_own hown hbd
  have hds : ((normS S).map toF).toArray.size = (normS S).length := by simp
  have hdl : (((normS S).map toF).toArray.toList).map ofF = normS S := by
    show ((normS S).map toF).map ofF = normS S
    rw [List.map_map]
    conv => rhs; rw [← List.map_id (normS S)]
    exact List.map_congr_left (fun r hr => ofF_toF r (hbd r hr))
  obtain ⟨d, hd⟩ : ∃ d, ((normS S).map toF).toArray = d := ⟨_, rfl⟩
  rw [hd] at hH hds hdl
  have eg : ∀ args w, (callFunc 140 args).run Tryz.prog w = .ok (.enter 140 args) w := enters_of Tryz.func140 (by kernel_rfl) rfl
  have hcon := Go.Proofs.AnyQ.slices_SortFunc sortIv 2 Tryz.isAgg65 Tryz.sizeOf65 encRF (fun _ => rfl) (fun x v hv => by simp [encRF, rowN] at hv; rcases hv with rfl | rfl <;> rfl) cmpF sworder 140 #[] g 0 cap d w eg (fun m os dk hs x y => bigger_any x y _) hH hg (by rw [hds]; omega)
  change Calls Tryz.prog 141 _ _ _ at hcon
  rw [hds] at hcon
  refine hcon.mono ?_
  rintro e w' ⟨rfl, d', n, os, hp, hs, rfl⟩
  refine ⟨rfl, sorted_turned w g n d' os, ?_⟩
  have hsz : d'.size = d.size := hp.1
  refine runs_held (d := d') (Go.Proofs.holdsK_sortWorldK_c encRF 2 w g 0 d d' n os hH hg hsz) ?_ (Nat.lt_of_lt_of_le hg (Go.Proofs.size_sortWorldK_c encRF 2 w g 0 n d' os))
  refine sort_is S _ ?_ ?_
  · have h3 := hp.2.2
    rw [← hds, whole_extract d, ← hsz, whole_extract d'] at h3
    rw [← hdl]
    exact h3.map _
  · intro i j hi hj hij hlt
    rw [List.length_map, Array.length_toList] at hi hj
    have h4 := hs i j (Nat.zero_le _) hij (by omega)
    rw [at_idx d' j hj, at_idx d' i hi] at h4
    rw [List.getElem_map, List.getElem_map] at hlt
    rw [(ltF _ _).2 hlt] at h4
    cases h4
theorem sort_own (S : Nat → Bool) (w : World) (base : Nat) (v : Value) (hown : OwnL w base 65 2 v ((normS S).map rowN)) :
    ∃ A c, v = .slice A (sortS (normS S)).length c ∧ Calls Tryz.prog 141 #[.slice A (sortS (normS S)).length c, .func (.func 140) #[] #[]] w fun e w' => e = .returned (.tuple #[]) ∧ Turned (fun i => base ≤ i) w w' ∧ RunsAt w' w'.heap.size A (ints (sortS (normS S))) := by
  have hlen : (sortS (normS S)).length = (normS S).length := (sortS_perm _ (normS_cnt S) (normS_asc S)).length_eq.symm
  rcases hown.form with ⟨rfl, h0⟩ | ⟨g, cap, rfl, hg, hg2, _⟩
  · have hn0 : (normS S).length = 0 := by have := congrArg List.length h0; simpa using this
    have hm0 : (sortS (normS S)).length = 0 := by omega
    refine ⟨none, 0, by rw [hm0], ?_⟩
    rw [hm0]
    have hcon := Go.Proofs.AnyF.slices_SortFunc_none sortIv none 0 (.func (.func 140) #[] #[]) w
    change Calls Tryz.prog 141 _ _ _ at hcon
    refine hcon.mono ?_
    rintro e w' ⟨rfl, rfl⟩
    refine ⟨rfl, Turned.refl _ _, ?_⟩
    rw [List.eq_nil_of_length_eq_zero hm0]
    exact ⟨fun r hr => (List.not_mem_nil hr).elim, fun h => absurd h (by decide)⟩
  · rw [List.length_map] at hown ⊢
    refine ⟨some ⟨g, 0, none⟩, cap, by rw [hlen], ?_⟩
    rw [hlen]
    refine (sort_any g cap S w base hown).mono ?_
    rintro e w' ⟨rfl, ht, hr⟩
    exact ⟨rfl, ht.mono (fun k _ hk => by subst hk; exact hg), hr⟩
end Go.Proofs.YtnlaogneceanoaaGreat
