/- Chapter 3: Crash, Sync. -/
import Derived.Test.YtklojcgbokmkhaaDevH
import Derived.OwnWalk
namespace Go.Proofs.Ytklojcgbokmkhaa
set_option linter.unusedVariables false
set_option linter.unusedSimpArgs false
set_option linter.unusedSectionVars false
open Go.RowKit
open Go.Maps (Keyed)
attribute [local go_sem ↓] Go.wp_at_zero Go.wp_at_succ
theorem runEnd_congr (p : Wr → Bool) (sv sv' : Nat → Nat) : ∀ (l : List Wr) (E : Dev) (k : Nat), (∀ i, k ≤ i → i < k + l.length → sv i = sv' i) → l.foldl (endStep p sv) (E, k) = l.foldl (endStep p sv') (E, k)
  | [], _, _, _ => rfl
  | r :: l, E, k, h => by
    rw [List.foldl_cons, List.foldl_cons]
    have he : endStep p sv (E, k) r = endStep p sv' (E, k) r := by
      unfold endStep
      cases p r with
      | false => rfl
      | true => simp only [if_true]; rw [h k (Nat.le_refl _) (by simp)]
    rw [he]
    obtain ⟨E', k', hE⟩ : ∃ E' k', endStep p sv' (E, k) r = (E', k') := ⟨_, _, rfl⟩
    have hk : k ≤ k' ∧ k' ≤ k + 1 := by
      have : k' = (endStep p sv' (E, k) r).2 := by rw [hE]
      rw [this]
      unfold endStep
      cases p r <;> simp
    rw [hE]
    exact runEnd_congr p sv sv' l E' k' (fun i h1 h2 => h i (by omega) (by simp; omega))
theorem finishD_congr (D : Dev) (p : Wr → Bool) (sv sv' : Nat → Nat) (h : ∀ i, i < D.pend.length → sv i = sv' i) : finishD D p sv = finishD D p sv' := by
  unfold finishD runEnd
  rw [runEnd_congr p sv sv' D.pend D 0 (fun i _ h2 => h i (by omega))]
/-- Cells just made. -/
theorem made_one {t e : TypeId} {z : Value} {b : Nat} (w : World) (n : Nat) (ht : Try.prog.underlying t = some (.slice e)) (hi : (Try.prog.info? e).map (fun i => (i.zero, i.size, i.bytes)) = some (some z, 1, b)) (hz : z.cells = #[z]) (hb : n * b ≤ 140737488355328) (hn : n ≤ 1000000) :
    (Instr.makeSlice t (.int .i64 (n : Int)) (.int .i64 (n : Int))).run Try.prog w = .ok (.slice (some ⟨w.heap.size, 0, none⟩) n n) (w.alloc (.cells (Array.replicate n z) e)) := by
  obtain ⟨i, hi, hz0, hz1, hz2⟩ := info_parts hi
  have hbb : (i.bytes : Int) * (n : Int) ≤ 281474976710656 := by
    obtain ⟨m, hm⟩ : ∃ m, n * b = m := ⟨_, rfl⟩
    rw [hm] at hb
    have : (i.bytes : Int) * (n : Int) = (m : Int) := by rw [hz2, ← hm, Int.natCast_mul, Int.mul_comm]
    omega
  have h := run_make (P := Try.prog) w t e i _ ht hi hz0 .i64 .i64 (n : Int) (n : Int) (by omega) (by omega) hbb (by omega)
  rw [hz1] at h
  simp only [Int.toNat_natCast, Nat.mul_one] at h
  rw [h]
  have hc : madeCells z.cells n = Array.replicate n z := by
    unfold madeCells
    rw [hz]
    apply Array.ext
    · simp
    · intro j h1 h2
      simp [Nat.mod_one]
  rw [hc]
theorem OwnL.made (w : World) (base e n : Nat) (z : Value) (hb : base ≤ w.heap.size) (hn : n ≤ 9223372036854775807) {m : Nat} (hm : m = w.heap.size) : OwnL (w.alloc (.cells (Array.replicate n z) e)) base e 1 (.slice (some ⟨m, 0, none⟩) n n) (List.replicate n [z]) := by
  subst hm
  refine ⟨fun r hr => by rw [(List.mem_replicate.1 hr).2]; rfl, ?_⟩
  have := World.ownsRow_lit (base := base) (e := e) (size := 1) w (Array.replicate n z) n hb (by unfold maxLen; exact hn) (by simp)
  have h2 : (List.replicate n [z]).flatten = (Array.replicate n z).toList := by
    rw [Array.toList_replicate]
    induction n with
    | zero => rfl
    | succ n ih =>
      rw [List.replicate_succ, List.flatten_cons, List.replicate_succ]
      rw [ih (by omega) (World.ownsRow_lit (base := base) (e := e) (size := 1) w (Array.replicate n z) n hb (by unfold maxLen; omega) (by simp))]
      rfl
  rw [h2, List.length_replicate]
  exact this
theorem info_int : (Try.prog.info? 3).map (fun i => (i.zero, i.size, i.bytes)) = some (some (.int .i64 0), 1, 8) := by kernel_rfl
section
variable {w : World} {q : DevP} {D : Dev} (h : DevM w q D) (s : Int)
include h
set_option maxRecDepth 100000 in
set_option maxHeartbeats 4000000 in
theorem crash_any (A2 : Option Addr) (c2 : Nat) (l : List Int) (hl : ListAt w w.heap.size 1 A2 (l.map intC)) (hlA : 0 < l.length → ∀ b off, A2 = some ⟨b, off, none⟩ → ¬ q.turns b) (hlen : l.length ≤ 9223372036854775807) (hlok : ∀ n ∈ l, okI n) (hsmall : D.pend.length ≤ 1000000) :
    Calls Try.prog 18 #[.pointer (some ⟨q.x, 0, none⟩), .int .i64 s, .slice A2 l.length c2] w fun er w' => er = .returned (.tuple #[]) ∧ Did w w' q (crashD D s l) := by
  have g1 := (Grew.refl w).alloc (.cells #[.int .i64 s] 3)
  have hbs := Blk.new w 3 #[.int .i64 s] rfl
  have hnt : ¬ q.turns w.heap.size := fun hh => absurd (h.feet_lt _ (DevP.turns_feet q _ hh)) (by omega)
  have HFIN := Lib.hid (finish_of w.heap.size (h.grew g1) (ofSys s) A2 c2 l (fun W => Blk W w.heap.size 3 #[.int .i64 s]) ((hl.keep (Nat.le_refl _) g1).mono g1.size) hlA hlen hlok hsmall (fun W W' hk ht => hk.turned ht hnt) (fun W W' hk hg => hk.grew hg) hbs (fun W r hk => of1_any s r _ W hk))
  have HG := Lib.hid g1
  clear h hl hbs
  go_enter Try.func18, Try.ntmps18
  go_wp2_with fail
  refine (of_any s w).mono ?_
  rintro er w1 ⟨rfl, rfl⟩
  go_wp2_with fail
  refine HFIN.out.mono ?_
  rintro er w2 ⟨rfl, q2, hd2, hf2, ht2⟩
  have HD := Lib.hid (show Did w w2 q (crashD D s l) from ⟨q2, hd2, (Foot'.refl w q).trans hf2 HG.out.size, (HG.out.turned _).next ht2 (fun k _ hk => DevP.turns_feet q k hk)⟩)
  clear hd2 hf2 ht2
  go_wp2_with fail
  refine bodyPost_end (results_none rfl _ _ _) rfl ?_
  exact ⟨rfl, HD.out⟩
set_option maxRecDepth 100000 in
set_option maxHeartbeats 8000000 in
theorem sync_any (e : Int) (hsmall : D.pend.length ≤ 1000000) :
    Calls Try.prog 17 #[.pointer (some ⟨q.x, 0, none⟩), .agg #[.int .i64 s, .int .i64 e]] w fun er w' => er = .returned (.int .i64 (syncD D s e).2) ∧ Did w w' q (syncD D s e).1 := by
  have HH := Lib.hid h
  have hG0 := (Grew.refl w).alloc (.cells #[.int .i64 s, .int .i64 e] 40)
  have hA1 := Blk.new w 40 #[.int .i64 s, .int .i64 e] rfl
  have a0 := hA1.cell 0
  have a1 := hA1.cell 1
  have HPL := Lib.hid (plain_any (w.alloc (.cells #[.int .i64 s, .int .i64 e] 40)) s e)
  cases hp : plainW s e with
  | false =>
    have HV := Lib.hid (show syncD D s e = (D, 1) from by unfold syncD; rw [if_pos hp])
    have HP := Lib.hid hp
    clear h hp hA1
    go_enter Try.func17, Try.ntmps17
    go_wp2_with fail
    refine HPL.out.mono ?_
    rw [HP.out]
    rintro er w1 ⟨rfl, g1⟩
    have hG := hG0.trans g1
    go_wp2_with fail
    go_ret
    rw [HV.out]
    exact ⟨rfl, Did.same HH.out hG⟩
  | true =>
    have HV := Lib.hid (show syncD D s e = if (admitD D s e).2 ≠ 0 then admitD D s e else (finishD (admitD D s e).1 (ofSys s) (fun _ => 140), 0) from by unfold syncD; rw [if_neg (by rw [hp]; simp)])
    have HP := Lib.hid hp
    have HKZ := fun hz => Lib.hid (admitD_zero_kept (D := D) (s := s) (e := e) hz)
    clear h hp hA1
    generalize hAD : admitD D s e = AD at *
    obtain ⟨D1, er1⟩ := AD
    have HAD := Lib.hid hAD
    clear hAD
    go_enter Try.func17, Try.ntmps17
    go_wp2_with fail
    refine HPL.out.mono ?_
    rw [HP.out]
    rintro er w1 ⟨rfl, g1⟩
    have hG := hG0.trans g1
    have b0 := (g1.cellEq w.heap.size 0 (by simp)).trans a0
    have b1 := (g1.cellEq w.heap.size 1 (by simp)).trans a1
    have HAM := Lib.hid (admit_any (HH.out.grew hG) s e HP.out (by omega))
    have HG := Lib.hid hG
    have hwl : w.heap.size < w1.heap.size := by have := g1.size; simp at this; omega
    rw [HAD.out] at HAM
    clear g1 a0 a1 hG0 hG
    go_wp2_with fail
    refine HAM.out.mono ?_
    rintro er w3 ⟨rfl, q3, hd3, hf3, ht3⟩
    have HF3 := Lib.hid hf3
    have hnf : ¬ q.feet w.heap.size := fun hh => absurd (HH.out.feet_lt _ hh) (by omega)
    have b0' := (ht3.cellEq w.heap.size 0 hwl hnf).trans b0
    have HD3 := Lib.hid hd3
    have hwl3 : w.heap.size < w3.heap.size := by have := ht3.size; omega
    have HDID := Lib.hid (show Did w1 w3 q D1 from ⟨q3, hd3, hf3, ht3⟩)
    have HT39 := Lib.hid ht3
    clear hf3 hd3 ht3 b0 b1
    by_cases hz : er1 = 0
    · subst hz
      obtain ⟨fu, hD1⟩ := (HKZ rfl).out
      have hpe : D1.pend = D.pend := by rw [hD1]
      have hpl1 : D1.pend.length ≤ 1000000 := by rw [hpe]; exact hsmall
      obtain ⟨A, c, hvp, hc1, hc2, hpl⟩ := HD3.out.pend_list
      have hb3 := HD3.out.blk
      rw [HF3.out.x, hvp] at hb3
      have hxl3 := hb3.lt
      have x2 := hb3.cell 2
      have hmk := made_one w3 D1.pend.length Try.underlying30 info_int rfl (by omega) hpl1
      have hown := OwnL.made w3 0 3 D1.pend.length (.int .i64 0) (Nat.zero_le _) (by omega) rfl
      have hg4 := (Grew.refl w3).alloc (.cells (Array.replicate D1.pend.length (.int .i64 0)) 3)
      have HG4 := Lib.hid hg4
      have HOWN := Lib.hid hown
      have hb0 := (hg4.cellEq _ _ hwl3).trans b0'
      have HB0 := Lib.hid b0'
      clear hD1 hpe HKZ hb3 hvp hpl hg4 hown b0'
      generalize hn : D1.pend.length = n at *
      have HN := Lib.hid hn
      clear hn
      go_wp2_with fail
      obtain ⟨w4, hw4⟩ : ∃ w4, w4 = w3.alloc (.cells (Array.replicate n (.int .i64 0)) 3) := ⟨_, rfl⟩
      rw [← hw4] at HG4 HOWN hb0 ⊢
      have hwl4 : w3.heap.size < w4.heap.size := by rw [hw4]; simp
      have hz4 : w4.heap.size = w3.heap.size + 1 := by rw [hw4]; simp
      clear hw4 x2 hmk
      go_loopg [25] n (fun gk iv wr => ∃ j : Nat, j ≤ n ∧ gk = n - j ∧ iv = .int .i64 (j : Int) ∧ OwnL wr 0 3 1 (.slice (some ⟨w3.heap.size, 0, none⟩) n n) ((List.replicate j (140 : Int) ++ List.replicate (n - j) 0).map intC) ∧ Turned (fun k => k = w3.heap.size) w4 wr)
      case atStart => exact ⟨0, by omega, rfl, rfl, by rw [List.replicate_zero, List.nil_append, List.map_replicate]; exact HOWN.out, Turned.refl _ _⟩
      case round =>
        obtain ⟨j, hj, hgk, rfl, hor, htr⟩ := hrel
        have HGK := Lib.hid hgk
        have HTR := Lib.hid htr
        have HOR := Lib.hid hor
        have hzr := htr.size
        clear hgk
        by_cases hlt : j < n
        · have hrow : ((List.replicate j (140 : Int) ++ List.replicate (n - j) 0).map intC)[j]? = some (intC 0) := by
            rw [List.getElem?_map, List.getElem?_append_right (by simp), List.length_replicate, Nat.sub_self, List.getElem?_replicate, if_pos (by omega)]; rfl
          have c0 := hor.cell (i := 0) hrow rfl
          rw [Nat.mul_one, Nat.add_zero] at c0
          have f0 := hor.frozen j
          have hs := hor.set_ (j := j) (i := 0) (o := j) hrow (by omega) (by omega) (.int .i64 140)
          have he : ((List.replicate j (140 : Int) ++ List.replicate (n - j) 0).map intC).set j ((intC 0).set 0 (.int .i64 140)) = (List.replicate (j + 1) (140 : Int) ++ List.replicate (n - (j + 1)) 0).map intC := by
            rw [show (intC 0).set 0 (.int .i64 140) = intC 140 from rfl, ← List.map_set]
            congr 1
            rw [List.set_append_right _ _ (by simp), List.length_replicate, Nat.sub_self, show n - j = (n - (j + 1)) + 1 by omega, List.replicate_succ, List.set_cons_zero, List.replicate_succ', List.append_assoc]
            rfl
          rw [he] at hs
          have HS := Lib.hid hs
          clear hs he hrow hor htr
          go_wp2_with fail
          go_roundg (n - (j + 1))
          case measure => rw [HGK.out]; omega
          case rel => exact ⟨j + 1, by omega, by omega, by go_num, HS.out, HTR.out.setCell (p := ⟨w3.heap.size, j, none⟩) (fun _ => rfl) _⟩
        · obtain rfl : j = n := by omega
          have hor := HOR.out
          rw [Nat.sub_self, List.replicate_zero, List.append_nil] at hor
          have hgr : Grew w3 wr := HG4.out.turn HTR.out (fun k hk => by omega)
          have hbo := (hgr.cellEq _ _ hwl3).trans HB0.out
          have hd4 := HD3.out.grew hgr
          have g5 := (Grew.refl wr).alloc (.cells #[.int .i64 s] 3)
          have hbs := Blk.new wr 3 #[.int .i64 s] rfl
          have hdx : q3.x = q.x := HF3.out.x
          have hnt : ¬ q3.turns wr.heap.size := fun hh => absurd (hd4.feet_lt _ (DevP.turns_feet _ _ hh)) (by omega)
          have hnt3 : ¬ q3.turns w3.heap.size := fun hh => absurd (HD3.out.feet_lt _ (DevP.turns_feet _ _ hh)) (by omega)
          have hla : ListAt wr wr.heap.size 1 (some ⟨w3.heap.size, 0, none⟩) ((List.replicate j (140 : Int)).map intC) := hor.listA
          have hfin := finish_of wr.heap.size (hd4.grew g5) (ofSys s) (some ⟨w3.heap.size, 0, none⟩) j (List.replicate j 140) (fun W => Blk W wr.heap.size 3 #[.int .i64 s]) ((hla.keep (Nat.le_refl _) g5).mono g5.size) (fun _ b off he hb => by
            injection he with he
            injection he with he _ _
            rw [← he] at hb
            exact hnt3 hb) (by rw [List.length_replicate]; omega) (fun n hn => by rw [(List.mem_replicate.1 hn).2]; unfold okI; omega) (by rw [HN.out]; omega) (fun W W' hk ht => hk.turned ht hnt) (fun W W' hk hg => hk.grew hg) hbs (fun W r hk => of1_any s r _ W hk)
          rw [List.length_replicate, hdx] at hfin
          have HFIN := Lib.hid hfin
          have HGR := Lib.hid hgr
          clear hor hgr hd4 g5 hbs hla hfin hb0
          go_wp2_with fail
          refine (of_any s wr).mono ?_
          rintro er w5 ⟨rfl, rfl⟩
          go_wp2_with fail
          refine HFIN.out.mono ?_
          rintro er w6 ⟨rfl, q6, hd6, hf6, ht6⟩
          have hfc : finishD D1 (ofSys s) (svN (List.replicate j 140)) = finishD D1 (ofSys s) (fun _ => 140) := finishD_congr _ _ _ _ (fun i hi => by
            unfold svN
            rw [List.getD_eq_getElem?_getD, List.getElem?_replicate, if_pos (by rw [HN.out] at hi; exact hi)]; rfl)
          rw [hfc] at hd6
          have HD6 := Lib.hid (show Did w3 w6 q3 (finishD D1 (ofSys s) (fun _ => 140)) from ⟨q6, hd6, (Foot'.refl w3 q3).trans hf6 (by have := HGR.out.size; simp; omega), ((HGR.out.alloc _).turned _).next ht6 (fun k _ hk => DevP.turns_feet _ k hk)⟩)
          clear hd6 hf6 ht6
          go_wp2_with fail
          go_ret
          rw [HV.out, if_neg (by decide)]
          exact ⟨rfl, Did.trans (Foot'.refl w q) (HG.out.turned _) (Did.trans HF3.out HT39.out HD6.out)⟩
    · have hz' : (er1 == 0) = false := beq_eq_false_iff_ne.2 hz
      have HZ := Lib.hid hz
      clear hz
      go_wp2_with fail
      go_ret
      rw [HV.out, if_pos HZ.out]
      exact ⟨rfl, Did.trans (Foot'.refl w q) (HG.out.turned _) HDID.out⟩
end
end Go.Proofs.Ytklojcgbokmkhaa
