/- Chapter 3, plain: writes that a crash ends. -/
import Derived.Test.YtklojcgbokmkhaaDevAJ
namespace Go.Proofs.Ytklojcgbokmkhaa
set_option linter.unusedVariables false
set_option linter.unusedSimpArgs false
set_option linter.unusedSectionVars false
open Go.RowKit
def oldS : ByteArray := fullS ⟨#[111, 108, 100]⟩
def twoS : ByteArray := fullS ⟨#[116, 119, 111]⟩
theorem oldS_size : oldS.size = 140 := fullS_size _
theorem twoS_size : twoS.size = 140 := fullS_size _
def wr2 (j : Nat) : List Wr := (List.range j).map fun i => ⟨2, i, oldS⟩
theorem wr2_succ (j : Nat) : wr2 (j + 1) = wr2 j ++ [⟨2, j, oldS⟩] := by unfold wr2; rw [List.range_succ, List.map_append]; rfl
def cr2 : Dev := ⟨List.replicate 6 oldS, List.replicate 6 [blank], [], fun _ => 0, none, false⟩
theorem cr2_gen (P : List Wr) : ∀ j, j ≤ 6 → (wr2 j).foldl (endStep (ofSys 2) (fun _ => 140)) ({ newD 6 with pend := P }, 0) = (⟨List.replicate j oldS ++ List.replicate (6 - j) blank, List.replicate j [blank] ++ List.replicate (6 - j) [], P, fun _ => 0, none, false⟩, j) := by
  have hne : ¬ blank = oldS := by decide +kernel
  have hcut : cutW ⟨2, 0, oldS⟩ 140 blank = oldS := cutW_all (r := ⟨2, 0, oldS⟩) oldS_size blank_size
  intro j
  induction j with
  | zero => intro _; rfl
  | succ j ih =>
    intro hj
    rw [wr2_succ, List.foldl_append, ih (by omega)]
    rw [List.foldl_cons, List.foldl_nil]
    have hat : Dev.at ⟨List.replicate j oldS ++ List.replicate (6 - j) blank, List.replicate j [blank] ++ List.replicate (6 - j) [], P, fun _ => 0, none, false⟩ j = blank := by
      unfold Dev.at
      simp only
      rw [List.getD_eq_getElem?_getD, List.getElem?_append_right (by simp), List.length_replicate, Nat.sub_self, List.getElem?_replicate, if_pos (by omega)]
      rfl
    have hol : Dev.olds ⟨List.replicate j oldS ++ List.replicate (6 - j) blank, List.replicate j [blank] ++ List.replicate (6 - j) [], P, fun _ => 0, none, false⟩ j = [] := by
      unfold Dev.olds
      simp only
      rw [List.getD_eq_getElem?_getD, List.getElem?_append_right (by simp), List.length_replicate, Nat.sub_self, List.getElem?_replicate, if_pos (by omega)]
      rfl
    unfold endStep
    rw [if_pos (show ofSys 2 ⟨2, j, oldS⟩ = true from decide_eq_true rfl)]
    simp only [hat]
    rw [show cutW ⟨2, j, oldS⟩ 140 blank = oldS from hcut]
    unfold changeD
    rw [hat, if_neg hne, hol]
    have e6 : 6 - j = (6 - (j + 1)) + 1 := by omega
    congr 1
    simp only [Dev.mk.injEq, and_true]
    refine ⟨?_, ?_⟩
    · rw [List.set_append_right _ _ (by simp), List.length_replicate, Nat.sub_self, e6, List.replicate_succ, List.set_cons_zero, List.replicate_succ' (n := j), List.append_assoc]; rfl
    · rw [List.set_append_right _ _ (by simp), List.length_replicate, Nat.sub_self, e6, List.replicate_succ, List.set_cons_zero, List.replicate_succ' (n := j), List.append_assoc]; rfl
theorem cr2_is : finishD { newD 6 with pend := wr2 6 } (ofSys 2) (fun _ => 140) = cr2 := by
  unfold finishD runEnd
  rw [show ({ newD 6 with pend := wr2 6 } : Dev).pend = wr2 6 from rfl, cr2_gen (wr2 6) 6 (by omega)]
  rfl
def wrs : Nat → List ByteArray → List Wr
  | _, [] => []
  | i, t :: ts => ⟨1, i, t⟩ :: wrs (i + 1) ts
theorem wrs_snoc : ∀ (ts : List ByteArray) (i : Nat) (t : ByteArray), wrs i (ts ++ [t]) = wrs i ts ++ [⟨1, i + ts.length, t⟩]
  | [], _, _ => rfl
  | x :: ts, i, t => by
    show _ :: wrs (i + 1) (ts ++ [t]) = (_ :: wrs (i + 1) ts) ++ _
    rw [wrs_snoc ts (i + 1) t, List.length_cons, show i + 1 + ts.length = i + (ts.length + 1) by omega]
    rfl
theorem wrs_len : ∀ (ts : List ByteArray) (i : Nat), (wrs i ts).length = ts.length
  | [], _ => rfl
  | _ :: ts, i => by show (wrs (i + 1) ts).length + 1 = _; rw [wrs_len ts (i + 1)]; rfl
theorem wrs_mem : ∀ (ts : List ByteArray) (i : Nat) (r : Wr), r ∈ wrs i ts → r.sys = 1 ∧ i ≤ r.sec ∧ r.sec < i + ts.length ∧ r.data ∈ ts
  | [], _, _, h => by cases h
  | t :: ts, i, r, h => by
    rcases List.mem_cons.1 h with rfl | h
    · exact ⟨rfl, Nat.le_refl _, by show i < i + (ts.length + 1); omega, List.mem_cons_self ..⟩
    · obtain ⟨h1, h2, h3, h4⟩ := wrs_mem ts (i + 1) r h
      rw [List.length_cons]
      exact ⟨h1, by omega, by omega, List.mem_cons_of_mem _ h4⟩
theorem crash_fold (sv : Nat → Nat) (hsv : ∀ k, sv k ≤ 140) : ∀ (ts : List ByteArray) (i : Nat) (D : Dev), D.Ok → (∀ t ∈ ts, t.size = 140) → i + ts.length ≤ D.st.length →
    ∃ E, (wrs i ts).foldl (endStep (ofSys 1) sv) (D, i) = (E, i + ts.length) ∧ EndKept D E ∧ ∀ j, E.at j = if i ≤ j ∧ j < i + ts.length then cutW ⟨1, j, ts.getD (j - i) emp⟩ (sv j) (D.at j) else D.at j
  | [], i, D, h, _, _ => ⟨D, rfl, ⟨h, rfl, rfl, rfl, rfl, rfl⟩, fun j => by rw [if_neg (by simp)]⟩
  | t :: ts, i, D, h, hs, hl => by
    rw [List.length_cons] at hl
    have hkd : EndKept D D := ⟨h, rfl, rfl, rfl, rfl, rfl⟩
    have hk := endStep_kept (ofSys 1) sv hsv (k := i) hkd ⟨1, i, t⟩ ⟨by show i < _; omega, hs t (List.mem_cons_self ..)⟩
    have hst : endStep (ofSys 1) sv (D, i) ⟨1, i, t⟩ = (changeD D i (cutW ⟨1, i, t⟩ (sv i) (D.at i)), i + 1) := by unfold endStep; rw [if_pos (show ofSys 1 ⟨1, i, t⟩ = true from decide_eq_true rfl)]
    rw [hst] at hk
    simp only at hk
    obtain ⟨E, h1, h2, h3⟩ := crash_fold sv hsv ts (i + 1) _ hk.ok (fun x hx => hs x (List.mem_cons_of_mem _ hx)) (by rw [hk.len]; omega)
    refine ⟨E, ?_, ⟨h2.ok, h2.len.trans hk.len, h2.pend.trans hk.pend, h2.fen.trans hk.fen, h2.fuse.trans hk.fuse, h2.failed.trans hk.failed⟩, fun j => ?_⟩
    · show (wrs (i + 1) ts).foldl _ (endStep _ _ (D, i) _) = _
      rw [hst, h1, List.length_cons, show i + 1 + ts.length = i + (ts.length + 1) by omega]
    · rw [h3 j, List.length_cons]
      by_cases hj : j = i
      · subst hj
        rw [if_neg (by omega), if_pos (by omega), changeD_at (by omega), Nat.sub_self]; rfl
      · rw [changeD_at_ne (fun e => hj e.symm)]
        by_cases hji : i + 1 ≤ j ∧ j < i + 1 + ts.length
        · rw [if_pos hji, if_pos (by omega), show j - i = (j - (i + 1)) + 1 by omega]; rfl
        · rw [if_neg hji, if_neg (by omega)]
theorem cutW_zero {r : Wr} {was : ByteArray} : cutW r 0 was = was := by
  unfold cutW
  have e1 : r.data.extract 0 0 = ByteArray.empty := by
    apply ByteArray.ext
    rw [ByteArray.data_extract]
    simp
  have e2 : was.extract 0 was.size = was := by
    apply ByteArray.ext
    rw [ByteArray.data_extract]
    exact Array.extract_eq_self_of_le (Nat.le_refl _)
  rw [e1, e2, ByteArray.empty_append]
def cr4 (ts : List ByteArray) : Dev := { cr2 with pend := ⟨2, 5, twoS⟩ :: wrs 0 ts }
theorem cr4_ok {ts : List ByteArray} (hl : ts.length ≤ 5) (hs : ∀ t ∈ ts, t.size = 140) : (cr4 ts).Ok := by
  refine ⟨rfl, (by show 1 ≤ 6; decide), (by show 6 ≤ 1155; decide), fun s h => by rw [(List.mem_replicate.1 h).2]; exact oldS_size, fun l h => by rw [(List.mem_replicate.1 h).2]; exact ⟨by decide, fun s hs => by rw [List.mem_singleton.1 hs]; exact blank_size⟩, fun r hr => ?_, fun _ => ⟨Int.le_refl _, (by show (0 : Int) ≤ 1099511627777; decide)⟩⟩
  rcases List.mem_cons.1 hr with rfl | hr
  · exact ⟨(by show 5 < 6; decide), twoS_size, (by show (1 : Int) ≤ 2; decide), (by show (2 : Int) ≤ 4; decide)⟩
  · obtain ⟨h1, _, h3, h4⟩ := wrs_mem ts 0 r hr
    exact ⟨by show r.sec < 6; omega, hs _ h4, by omega, by omega⟩
theorem cr4_crash {ts : List ByteArray} (hl : ts.length ≤ 5) (hs : ∀ t ∈ ts, t.size = 140) (sv : List Int) :
    ∃ F, crashD (cr4 ts) 1 sv = F ∧ F.failed = false ∧ F.st.length = 6 ∧ F.pend = [⟨2, 5, twoS⟩] ∧ ∀ j, j < 5 → F.at j = if j < ts.length then cutW ⟨1, j, ts.getD j emp⟩ (svN sv j) oldS else oldS := by
  have hok := cr4_ok hl hs
  obtain ⟨E, h1, h2, h3⟩ := crash_fold (svN sv) (svN_le sv) ts 0 (cr4 ts) hok hs (by show 0 + ts.length ≤ 6; omega)
  have hrun : (runEnd (cr4 ts) (ofSys 1) (svN sv) (cr4 ts).pend).1 = E := by
    unfold runEnd
    rw [show (cr4 ts).pend = (⟨2, 5, twoS⟩ : Wr) :: wrs 0 ts from rfl]
    rw [List.foldl_cons, show endStep (ofSys 1) (svN sv) (cr4 ts, 0) ⟨2, 5, twoS⟩ = (cr4 ts, 0) from endStep_no (decide_eq_false (by decide)), h1]
  have hfil : (cr4 ts).pend.filter (fun r => !ofSys 1 r) = [⟨2, 5, twoS⟩] := by
    show ((⟨2, 5, twoS⟩ : Wr) :: wrs 0 ts).filter _ = _
    rw [List.filter_cons, if_pos (by decide), List.filter_eq_nil_iff.2]
    intro r hr
    have := (wrs_mem ts 0 r hr).1
    rw [show ofSys 1 r = true from decide_eq_true this]
    decide
  refine ⟨{ E with pend := [⟨2, 5, twoS⟩] }, ?_, h2.failed, h2.len, rfl, fun j hj => ?_⟩
  · unfold crashD finishD
    rw [hrun, hfil]
  · show E.at j = _
    rw [h3 j]
    have hat : (cr4 ts).at j = oldS := by
      unfold Dev.at cr4 cr2
      simp only
      rw [List.getD_eq_getElem?_getD, List.getElem?_replicate, if_pos (by omega)]; rfl
    rw [hat, Nat.zero_add, Nat.sub_zero]
    by_cases h9 : j < ts.length
    · rw [if_pos ⟨Nat.zero_le _, h9⟩, if_pos h9]
    · rw [if_neg (fun h => h9 h.2), if_neg h9]
theorem readD_five {F : Dev} (h : F.failed = false) (hl : F.st.length = 6) (hp : F.pend = [⟨2, 5, twoS⟩]) : (∀ j : Nat, j < 5 → readD F (j : Int) = (F.at j, 0)) ∧ readD F 5 = (twoS, 0) ∧ waitD F 2 = 1 ∧ waitD F 1 = 0 := by
  refine ⟨fun j hj => ?_, ?_, ?_, ?_⟩
  · unfold readD
    rw [if_neg (by rw [thereD_nat (by omega)]; decide), if_neg (by rw [h]; decide), Int.toNat_natCast]
    unfold Dev.content
    rw [hp]
    show ((if 5 = j then some twoS else none).getD _, _) = _
    rw [if_neg (by omega)]; rfl
  · unfold readD
    rw [if_neg (by rw [show thereD F 5 = true from thereD_nat (i := 5) (by omega)]; decide), if_neg (by rw [h]; decide)]
    show (F.content 5, _) = _
    unfold Dev.content
    rw [hp]; rfl
  · unfold waitD; rw [hp]; rfl
  · unfold waitD; rw [hp]; rfl
end Go.Proofs.Ytklojcgbokmkhaa
