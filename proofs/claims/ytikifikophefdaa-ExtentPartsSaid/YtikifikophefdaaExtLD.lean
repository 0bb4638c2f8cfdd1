/- The walk of ExtentParts. -/
import Derived.Test.YtikifikophefdaaExtLB
import Derived.Deep.DeepCutAuto
namespace Go.Proofs.Ytikifikophefdaa
set_option linter.unusedVariables false
set_option linter.unusedSimpArgs false
set_option linter.unusedSectionVars false
open Go.RowKit
theorem findT_at (s : List Nat) : ∀ (i m : Nat) (h : i < s.length), ∃ j, j ≤ i ∧ findT ((s[i] : Nat) : Int) s m = ((m : Int) + j, true) ∧ s[j]? = some s[i] := by
  induction s with
  | nil => intro i m h; simp at h
  | cons x s ih =>
    intro i m h
    cases i with
    | zero => exact ⟨0, by omega, by simp [findT], rfl⟩
    | succ i =>
      have h' : i < s.length := by simpa using h
      rw [List.getElem_cons_succ, findT]
      by_cases hx : (x : Int) = ((s[i] : Nat) : Int)
      · rw [if_pos hx]
        exact ⟨0, by omega, by simp, by simp; omega⟩
      · rw [if_neg hx]
        obtain ⟨j, hj, h1, h2⟩ := ih i (m + 1) h'
        exact ⟨j + 1, by omega, by rw [h1]; exact Prod.ext (by simp only []; omega) rfl, by rw [List.getElem?_cons_succ]; exact h2⟩
theorem nodup_at2 {l : List Nat} (h : l.Nodup) {i j a : Nat} (hi : l[i]? = some a) (hj : l[j]? = some a) : i = j := by
  obtain ⟨hi1, e1⟩ := List.getElem?_eq_some_iff.1 hi
  obtain ⟨hj1, e2⟩ := List.getElem?_eq_some_iff.1 hj
  rcases Nat.lt_trichotomy i j with h1 | h1 | h1
  · exact absurd (e1.trans e2.symm) (List.pairwise_iff_getElem.1 h i j hi1 hj1 h1)
  · exact h1
  · exact absurd (e2.trans e1.symm) (List.pairwise_iff_getElem.1 h j i hj1 hi1 h1)
theorem size_valI {A : Option Addr} {c n : Nat} {l : List (Int × Int)} {w : World} (hn : n = l.length) (hl : l.length ≤ 1000000) (hr : RunsAt w w.heap.size A l) (s : Int) (hs : ((sizeS l : Nat) : Int) = s) :
    Calls Try.prog 23 #[.slice A n c] w fun e w' => e = .returned (.int .i64 s) ∧ Grew w w' := by
  subst hs
  exact size_val hn hl hr _ rfl
theorem inT_mem (l : List (Int × Int)) (t : Nat) (h : t ∈ seqS l) : inT l (t : Int) = true := by rw [inT_nat]; exact (mem_seqS l t).1 h
set_option maxRecDepth 100000 in
set_option maxHeartbeats 16000000 in
theorem extentParts_any (A : Option Addr) (c : Nat) (l : List (Int × Int)) (n : Int) (n0 : -9223372036854775808 ≤ n) (n1 : n ≤ 9223372036854775807) (w : World) (hl : l.length ≤ 9223372036854775807) (hr : RunsAt w w.heap.size A l) :
    Calls Try.prog 7 #[.slice A l.length c, .int .i64 n] w fun e w' => e = .returned (.bool true) ∧ Grew w w' := by
  have hG := Grew.refl w
  by_cases h30 : l.length ≤ 12
  · obtain ⟨ka, hka⟩ : ∃ k, ints (joinS (ints (cutA l n.toNat))) = k := ⟨_, rfl⟩
    obtain ⟨kb, hkb⟩ : ∃ k, ints (joinS (ints (cutB l n.toNat))) = k := ⟨_, rfl⟩
    obtain ⟨kj, hkj⟩ : ∃ k, ints (joinS l) = k := ⟨_, rfl⟩
    obtain ⟨s, hs⟩ : ∃ s, sizeS l = s := ⟨_, rfl⟩
    obtain ⟨sa, hsa⟩ : ∃ s, sizeS ka = s := ⟨_, rfl⟩
    obtain ⟨sb, hsb⟩ : ∃ s, sizeS kb = s := ⟨_, rfl⟩
    have hla := joinS_vlen _ hka
    rw [cutA_vlen] at hla
    have hlb := joinS_vlen _ hkb
    rw [cutB_vlen] at hlb
    have hlj := joinS_vlen _ hkj
    have hsz := sizeS_le l
    rw [hs] at hsz
    have hsl : (seqS l).length = s := by rw [seqS_len, hs]
    have hsav : sa = min n.toNat s := by rw [← hsa, ← hka, ← seqS_len, seqS_joinS, seq_cutA, List.length_take, hsl]
    have hsbv : sb = s - n.toNat := by rw [← hsb, ← hkb, ← seqS_len, seqS_joinS, seq_cutB, List.length_drop, hsl]
    have HJJ := Lib.hid (show ints (joinS (ka ++ kb)) = kj from by rw [← hka, ← hkb, ← hkj, join_parts])
    have HSJ := Lib.hid (show seqS kj = seqS l from by rw [← hkj, seqS_joinS])
    have HKA := Lib.hid hka
    have HKB := Lib.hid hkb
    have HKJ := Lib.hid hkj
    have HS := Lib.hid hs
    have HSA := Lib.hid hsa
    have HSB := Lib.hid hsb
    have HSAV := Lib.hid hsav
    have HSBV := Lib.hid hsbv
    have HSL := Lib.hid hsl
    have hsab : sa ≤ s := by omega
    obtain ⟨S0, hS0⟩ : ∃ m : Int, ((sizeS l : Nat) : Int) = m := ⟨_, rfl⟩
    have hs1 : (s : Int) ≤ S0 := by omega
    have hs2 : S0 ≤ (s : Int) := by omega
    have HS0 := Lib.hid hS0
    clear hS0
    have hsbb : sb ≤ s := by omega
    clear hka hkb hkj hs hsa hsb hsav hsbv hsl
    go_enter Try.func7, Try.ntmps7
    go_wp2_with fail
    refine (awake_any _).mono ?_
    rintro e ws ⟨rfl, gs⟩
    replace hr := hr.hold gs
    replace hG := hG.trans gs
    clear gs
    go_wp2_with fail
    refine (size_valI rfl (by omega) hr S0 HS0.out).mono ?_
    rintro e ws ⟨rfl, gs⟩
    replace hr := hr.hold gs
    replace hG := hG.trans gs
    clear gs
    go_wp2_with fail
    refine (cut_val rfl (by omega) hr n n0 n1 ka kb HKA.out HKB.out).mono ?_
    rintro e wb ⟨Aa, ca, Ab, cb, rfl, ra, rb, gs⟩
    replace hr := hr.hold gs
    replace hG := hG.trans gs
    clear gs
    go_upto_region 5 with fail
    go_cut [60] (fun b wx => b = .bool false ∧ Grew wb wx)
    case first =>
      have hGB := hG
      clear hG
      have hG := Grew.refl wb
      have h1 := HSAV.out
      have h2 := HSBV.out
      obtain ⟨SA, hSA⟩ : ∃ m : Int, ((sizeS ka : Nat) : Int) = m := ⟨_, rfl⟩
      obtain ⟨SB, hSB⟩ : ∃ m : Int, ((sizeS kb : Nat) : Int) = m := ⟨_, rfl⟩
      have hSA' : (sa : Int) = SA := by rw [← hSA, HSA.out]
      have hSB' : (sb : Int) = SB := by rw [← hSB, HSB.out]
      have HB2 := Lib.hid (show ((SA + SB) != S0) = false from by rw [bne_eq_false_iff_eq]; omega)
      have hSA0 : 0 ≤ SA := by omega
      have hSA1 : SA ≤ 4000 := by omega
      have hSB0 : 0 ≤ SB := by omega
      have hSB1 : SB ≤ 4000 := by omega
      have hmv : (n < 0 ∧ (SA != 0) = false ∨ n = 0 ∧ (SA != 0) = false ∨ 0 < n ∧ n < S0 ∧ (SA != n) = false ∨ S0 = 0 ∧ 0 < n ∧ (SA != 0) = false ∨ 0 < S0 ∧ S0 < n ∧ SA = S0 ∧ SB = 0 ∨ S0 = n ∧ 0 < S0 ∧ SA = S0 ∧ SB = 0) := by
        simp only [bne_eq_false_iff_eq]
        omega
      have HSA2 := Lib.hid hSA
      have HSB2 := Lib.hid hSB
      clear h1 h2 hSA hSB hSA' hSB'
      rcases hmv with ⟨h1, hb1⟩ | ⟨h1, hb1⟩ | ⟨h1, h2, hb1⟩ | ⟨h1, h2, hb1⟩ | ⟨h1, h2, rfl, rfl⟩ | ⟨rfl, h2, rfl, rfl⟩
      all_goals
        try subst h1
        try have hb2 := HB2.out
        go_wp2_with fail
        refine (size_valI rfl (by omega) ra _ HSA2.out).mono ?_
        rintro e ws ⟨rfl, gs⟩
        replace hr := hr.hold gs
        replace ra := ra.hold gs
        replace rb := rb.hold gs
        replace hG := hG.trans gs
        clear gs
        go_wp2_with fail
        refine (size_valI rfl (by omega) ra _ HSA2.out).mono ?_
        rintro e ws ⟨rfl, gs⟩
        replace hr := hr.hold gs
        replace ra := ra.hold gs
        replace rb := rb.hold gs
        replace hG := hG.trans gs
        clear gs
        go_wp2_with fail
        refine (size_valI rfl (by omega) rb _ HSB2.out).mono ?_
        rintro e wc ⟨rfl, gs⟩
        replace hr := hr.hold gs
        replace ra := ra.hold gs
        replace rb := rb.hold gs
        replace hG := hG.trans gs
        clear gs
        go_wp2_with (first
          | (refine wpList_pushAll (by rfl) (.tmp 50) (.tmp 51) 22 rfl wc.heap.size 42 2 16 _ Try.underlying22 info_run rfl (by decide) _ [] (ka.map runC) (by rfl) (OwnL.empty wc _ _ _ (Nat.le_refl _) rfl) _ ka.length _ (by rfl) (by simp) (runC_len _) (ra.hold ((Grew.refl wc).alloc _)).2 (runC_one _) (by simp; omega) (by simp; omega) (by simp) ?_; intro v1 w3 hown1 hgr1 hat1; have g3 : Grew wc w3 := Grew.own ((Grew.refl wc).alloc _) hgr1 (by simp [Value.ownBlock]) (Nat.le_refl _); clear hgr1 hat1)
          | (refine wpList_pushAll (by rfl) (.tmp 52) (.tmp 53) 22 rfl wc.heap.size 42 2 16 _ Try.underlying22 info_run rfl (by decide) _ ([] ++ ka.map runC) (kb.map runC) (by rfl) hown1 _ kb.length _ (by rfl) (by simp) (runC_len _) (rb.hold g3).2 (runC_one _) (by simp; omega) (by simp; omega) g3.size ?_; intro v2 w5 hown2 hgr2 hat2; have g5 : Grew wc w5 := Grew.own g3 hgr2 hown1.row_ge (Nat.le_refl _); clear hgr2 hat2 hown1 g3))
        obtain ⟨P, hP⟩ : ∃ P, ka ++ kb = P := ⟨_, rfl⟩
        have HJP := HJJ.out
        rw [hP] at HJP
        have HJP2 := Lib.hid HJP
        clear HJP
        have hlp : P.length ≤ 24 := by rw [← hP]; simp; omega
        rw [show [] ++ ka.map runC ++ kb.map runC = P.map runC from by rw [← hP]; simp] at hown2
        obtain ⟨Ap, cp, rfl, rp⟩ := own_runsI hown2 (by
          intro r hr
          rw [← hP] at hr
          rcases List.mem_append.1 hr with hr | hr
          · exact ra.1 r hr
          · exact rb.1 r hr)
        clear hP hown2
        replace hr := hr.hold g5
        replace hG := hG.trans g5
        clear g5 ra rb hb2
        go_wp2_with fail
        refine (join_val _ _ _ _ _ rfl (by omega) rp kj HJP2.out).mono ?_
        rintro e wd ⟨Aq, cq, rfl, rq, gs⟩
        replace hr := hr.hold gs
        replace hG := hG.trans gs
        clear gs
        go_wp2_with fail
        refine (join_val _ _ _ _ _ rfl (by omega) hr kj HKJ.out).mono ?_
        rintro e ws ⟨As, cs, rfl, rs, gs⟩
        replace rq := rq.hold gs
        replace hG := hG.trans gs
        clear gs
        go_wp2_with fail
        refine (same_val _ _ _ _ _ _ _ _ _ rfl rfl (by omega) (by omega) rq rs true (by simp)).mono ?_
        rintro e ws ⟨rfl, gs⟩
        replace hG := hG.trans gs
        clear gs
        go_wp2_with fail
        go_meet
        exact ⟨rfl, hG⟩
    case rest =>
      obtain ⟨rfl, gc⟩ := hcut
      replace hr := hr.hold gc
      replace hG := hG.trans gc
      clear gc ra rb
      have wx0 : wc = wc := rfl
      obtain ⟨wd, rfl⟩ : ∃ wd, wd = wc := ⟨_, rfl⟩
      clear wx0
      go_wp2_with fail
      go_loopg [8] s (fun gk i wr => ∃ k : Nat, k ≤ s ∧ gk = s - k ∧ i = .int .i64 k ∧ Grew wd wr)
      case atStart => exact ⟨0, by omega, by omega, rfl, Grew.refl _⟩
      case round =>
        obtain ⟨k, hk, hgk, rfl, hg⟩ := hrel
        have HGK := Lib.hid hgk
        clear hgk
        replace hr := hr.hold hg
        have hG0 := hG
        clear hG
        have hG := hg
        by_cases hlt : k < s
        · have hlt0 : (k : Int) < S0 := by omega
          have hks : k < (seqS l).length := by rw [HSL.out]; exact hlt
          have hpk : pickT (seqS l) k = ((((seqS l)[k] : Nat) : Int), true) := by
            unfold pickT; rw [if_pos hks]; simp [List.getD, hks]
          obtain ⟨ki, hki, hfi, hkv⟩ := findT_at (seqS l) k 0 hks
          have hbd := seqS_lt l _ (List.getElem_mem hks)
          have hin := inT_mem l _ (List.getElem_mem hks)
          have hnd : ki < k → decide (seqS l).Nodup = false := fun hlt2 => by
            rw [decide_eq_false_iff_not]
            intro hn
            exact absurd (nodup_at2 hn hkv (List.getElem?_eq_getElem hks)) (by omega)
          have HAT := Lib.hid (show (if (k : Int) < 0 then ((0 : Int), false) else atS l (k : Int)) = ((((seqS l)[k] : Nat) : Int), true) from by rw [if_neg (by omega), atS_pick, hpk])
          have HAJ := Lib.hid (show (if (k : Int) < 0 then ((0 : Int), false) else atS kj (k : Int)) = ((((seqS l)[k] : Nat) : Int), true) from by rw [if_neg (by omega), atS_pick, HSJ.out, hpk])
          have HIX := Lib.hid (show idxS (((seqS l)[k] : Nat) : Int) l 0 = ((ki : Int), true) from by rw [idxS_find, hfi]; simp)
          have HIN := Lib.hid hin
          have HND := Lib.hid hnd
          clear hpk hfi hkv hin hnd
          generalize (seqS l)[k] = t at *
          rcases Nat.lt_or_ge ki k with hkk | hkk
          · have HNE := Lib.hid (HND.out hkk)
            go_wp2_with fail
            refine (at_val _ _ _ _ _ rfl (by omega) hr k (by omega) (by omega) _ true HAT.out).mono ?_
            rintro e ws ⟨rfl, gs⟩
            replace hr := hr.hold gs
            replace hG := hG.trans gs
            clear gs
            go_wp2_with fail
            refine (index_val rfl (by omega) hr t (by omega) (by omega) _ true HIX.out).mono ?_
            rintro e ws ⟨rfl, gs⟩
            replace hr := hr.hold gs
            replace hG := hG.trans gs
            clear gs
            go_wp2_with fail
            refine (join_val _ _ _ _ _ rfl (by omega) hr kj HKJ.out).mono ?_
            rintro e ws ⟨Aq, cq, rfl, rq, gs⟩
            replace hr := hr.hold gs
            replace hG := hG.trans gs
            clear gs
            go_wp2_with fail
            refine (at_val _ _ _ _ _ rfl (by omega) rq k (by omega) (by omega) _ true HAJ.out).mono ?_
            rintro e ws ⟨rfl, gs⟩
            replace hr := hr.hold gs
            replace hG := hG.trans gs
            clear gs
            go_wp2_with fail
            refine (contains_val rfl (by omega) hr t (by omega) (by omega) true HIN.out).mono ?_
            rintro e ws ⟨rfl, gs⟩
            replace hr := hr.hold gs
            replace hG := hG.trans gs
            clear gs
            go_wp2_with fail
            refine (disjoint_val rfl (by omega) hr false HNE.out).mono ?_
            rintro e ws ⟨rfl, gs⟩
            replace hr := hr.hold gs
            replace hG := hG.trans gs
            clear gs
            go_wp2_with fail
            go_roundg (s - (k + 1))
            case measure => rw [HGK.out]; omega
            case rel => exact ⟨k + 1, by omega, by omega, by go_num, hG⟩
          · obtain rfl : ki = k := by omega
            go_wp2_with fail
            refine (at_val _ _ _ _ _ rfl (by omega) hr ki (by omega) (by omega) _ true HAT.out).mono ?_
            rintro e ws ⟨rfl, gs⟩
            replace hr := hr.hold gs
            replace hG := hG.trans gs
            clear gs
            go_wp2_with fail
            refine (index_val rfl (by omega) hr t (by omega) (by omega) _ true HIX.out).mono ?_
            rintro e ws ⟨rfl, gs⟩
            replace hr := hr.hold gs
            replace hG := hG.trans gs
            clear gs
            go_wp2_with fail
            refine (join_val _ _ _ _ _ rfl (by omega) hr kj HKJ.out).mono ?_
            rintro e ws ⟨Aq, cq, rfl, rq, gs⟩
            replace hr := hr.hold gs
            replace hG := hG.trans gs
            clear gs
            go_wp2_with fail
            refine (at_val _ _ _ _ _ rfl (by omega) rq ki (by omega) (by omega) _ true HAJ.out).mono ?_
            rintro e ws ⟨rfl, gs⟩
            replace hr := hr.hold gs
            replace hG := hG.trans gs
            clear gs
            go_wp2_with fail
            refine (contains_val rfl (by omega) hr t (by omega) (by omega) true HIN.out).mono ?_
            rintro e ws ⟨rfl, gs⟩
            replace hr := hr.hold gs
            replace hG := hG.trans gs
            clear gs
            go_wp2_with fail
            go_roundg (s - (ki + 1))
            case measure => rw [HGK.out]; omega
            case rel => exact ⟨ki + 1, by omega, by omega, by go_num, hG⟩
        · obtain rfl : k = s := by omega
          replace hG := hG0.trans hG
          have HAT := Lib.hid (show (if S0 < 0 then ((0 : Int), false) else atS l S0) = (0, false) from by
            have e : S0 = (k : Int) := by omega
            rw [e, if_neg (by omega), atS_pick]
            unfold pickT
            rw [if_neg (by rw [HSL.out]; omega)])
          go_wp2_with fail
          refine (at_val _ _ _ _ _ rfl (by omega) hr S0 (by omega) (by omega) 0 false HAT.out).mono ?_
          rintro e ws ⟨rfl, gs⟩
          replace hG := hG.trans gs
          clear gs
          go_wp2_with fail
          go_ret
          exact ⟨rfl, hG⟩
  · go_enter Try.func7, Try.ntmps7
    go_wp2_with fail
    refine (awake_any _).mono ?_
    rintro e ws ⟨rfl, gs⟩
    replace hG := hG.trans gs
    clear gs
    go_wp2_with fail
    refine (awake_any _).mono ?_
    rintro e ws ⟨rfl, gs⟩
    replace hG := hG.trans gs
    clear gs
    go_wp2_with fail
    go_ret
    exact ⟨rfl, hG⟩
end Go.Proofs.Ytikifikophefdaa
